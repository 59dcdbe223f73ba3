import Derived.Test.YtdfahbenacjgeaaIxA
import Derived.Laws.AppendOwn
import Derived.Lib.UnsafeStr
import Derived.WalkSpells
import Derived.IntWalk
set_option linter.unusedSimpArgs false
set_option linter.unusedVariables false
namespace Go.Ix
abbrev Eta:=Id->Nat->Option (Nat×Nat×Nat)
def eta0:Eta:=λ_ _=>none
inductive V (F:Nat->Prop) (w:World):Eta->List Nat->AV->Value->Prop where
 |sc {η:Eta} {ζ:List Nat} (v:Value):V F w η ζ (.sc v) v
 |agg {η:Eta} {ζ:List Nat} (cs:List AV) (vs:Array Value) (hl:vs.size=cs.length)
  (h:∀(i:Nat) (a:AV) (v:Value),cs[i]?=some a->vs[i]?=some v->V F w η ζ a v):V F w η ζ (.agg cs) (.agg vs)
 |tup {η:Eta} {ζ:List Nat} (cs:List AV) (vs:Array Value) (hl:vs.size=cs.length)
  (h:∀(i:Nat) (a:AV) (v:Value),cs[i]?=some a->vs[i]?=some v->V F w η ζ a v):V F w η ζ (.tup cs) (.tuple vs)
 |slit {η:Eta} {ζ:List Nat} (cs:List AV) (n:Nat) (x:Bool) (a:Addr) (cap:Nat) (f:Nat->Value)
  (hc:∀i,i<cs.length->w.cell? ⟨a.block,a.off+i,none⟩=some (f i))
  (h:∀(i:Nat) (b:AV),cs[i]?=some b->V F w eta0 [] b (f i))
  (hF:cs≠[]->F a.block/\a.spot=none) (hn:n<=cap) (hx:x=true->cap=n) (ho:∀i,i<cs.length->(f i).oneCell'=true):V F w η ζ (.slit cs n x) (.slice (some a) n cap)
 |plit {η:Eta} {ζ:List Nat} (cs:List AV) (a:Addr) (f:Nat->Value)
  (hc:∀i,i<cs.length->w.cell? ⟨a.block,a.off+i,none⟩=some (f i))
  (h:∀(i:Nat) (b:AV),cs[i]?=some b->V F w eta0 [] b (f i))
  (hF:cs≠[]->F a.block/\a.spot=none) (ho:∀i,i<cs.length->(f i).oneCell'=true):V F w η ζ (.plit cs) (.pointer (some a))
 |sref {η:Eta} {ζ:List Nat} (id:Id) (ver off n z:Nat) (x:Bool) (blk base len:Nat) (a:Addr) (cap:Nat)
  (hη:η id ver=some (blk,base,len)) (ha:a=⟨blk,base+off,none⟩\/cap=0) (hlen:off+n*z<=len) (hn:n<=cap)
  (hx:(x=true->len<=off+cap*z)/\(x=false->cap=n)) (hs:∃t sz,w.shape? blk=some (t,sz)/\base+off+cap*z<=sz) :
  V F w η ζ (.sref id ver off n z x) (.slice (some a) n cap)
 |ptr {η:Eta} {ζ:List Nat} (id:Id) (ver off:Nat) (blk base len:Nat) (hη:η id ver=some (blk,base,len)) :
  V F w η ζ (.ptr id ver off) (.pointer (some ⟨blk,base+off,none⟩))
 |clo {η:Eta} {ζ:List Nat} (f:FuncId) (cs:List AV) (vs:Array Value) (hl:vs.size=cs.length)
  (h:∀(i:Nat) (a:AV) (v:Value),cs[i]?=some a->vs[i]?=some v->V F w η ζ a v):V F w η ζ (.clo f cs) (.func (.func f) #[] vs)
 |yld {η:Eta} {ζ:List Nat} (id:Id) (blk:Nat) (h:η id 0=some (blk,0,0)):V F w η ζ (.yld id) (.func (.yield blk) #[] #[])
 |mp {η:Eta} {ζ:List Nat} (id:Id) (blk:Nat) (h:η id 0=some (blk,0,0)):V F w η ζ (.mp id) (.map (some blk))
 |un {η:Eta} {ζ:List Nat} (p:Value->Prop) (v:Value) (h:p v) (h1:one1 v):V F w η ζ (.un p) v
structure Ext (G:Nat->Prop) (w w':World):Prop where
 size:w.heap.size<=w'.heap.size
 shape:∀b,b<w.heap.size->w'.shape? b=w.shape? b
 same:∀b,G b->b<w.heap.size->w'.heap[b]?=w.heap[b]?
 os:w'.os=w.os
 out:w'.output=w.output
theorem Ext.refl(G:Nat->Prop)(w:World):Ext G w w:=⟨xc7 _,λ_ _=>rfl,λ_ _ _=>rfl,rfl,rfl⟩
theorem Ext.trans{G G':Nat->Prop}{w w1 w2:World}(h:Ext G w w1)(h':Ext G' w1 w2)(hG:∀b,b<w.heap.size->G b->G' b):Ext G w w2 where
 size:=xd4 h.size h'.size
 shape b hb:=(h'.shape b (xcq hb h.size)).trans (h.shape b hb)
 same b g hb:=(h'.same b (hG b hb g) (xcq hb h.size)).trans (h.same b g hb)
 os:=h'.os.trans h.os
 out:=h'.out.trans h.out
theorem Ext.weaken{G G':Nat->Prop}{w w':World}(h:Ext G w w')(hG:∀b,b<w.heap.size->G' b->G b):Ext G' w w' where
 size:=h.size
 shape:=h.shape
 same b g hb:=h.same b (hG b hb g) hb
 os:=h.os
 out:=h.out
theorem N2{w:World}{a:Addr}{v:Value}(h:w.cell? a=some v):a.block<w.heap.size:=by
 unfold World.cell? at h;rcases xcu a.block w.heap.size with h'|h'
 .exact h'
 .simp[xe8 h']at h
theorem N3{w w':World}{a:Addr}(h:w'.heap[a.block]?=w.heap[a.block]?):w'.cell? a=w.cell? a:=by unfold World.cell?;rw[h]
theorem xM{w:World}{b:Nat}{x:TypeId×Nat}(h:w.shape? b=some x):b<w.heap.size:=by
 unfold World.shape? at h;rcases xcu b w.heap.size with h'|h'
 .exact h'
 .simp[xe8 h']at h
theorem V.mono{F F':Nat->Prop}{w w':World}(hF:∀b,F b->F' b)(hw:Ext F w w'){η:Eta}{ζ:List Nat}{a:AV}{v:Value}(h:V F w η ζ a v) :
 ∀{η':Eta} {ζ':List Nat},(∀id ver x,η id ver=some x->η' id ver=some x)->(∀(l x:Nat),ζ[l]?=some x->ζ'[l]?=some x)->V F' w' η' ζ' a v:=by
 induction h with
 |sc v=>intro _ _ _ _;exact .sc v
 |agg cs vs hl _ ih=>intro _ _ h1 h2;exact .agg cs vs hl λi a v ha hv=>ih i a v ha hv h1 h2
 |tup cs vs hl _ ih=>intro _ _ h1 h2;exact .tup cs vs hl λi a v ha hv=>ih i a v ha hv h1 h2
 |slit cs n x a cap f hc _ hF' hn hx ho ih=>intro _ _ h1 h2;refine .slit cs n x a cap f (λi hi=>?_) (λi b hb=>ih i b hb (λ_ _ _ h=>h) (λ_ _ h=>h)) (λhne=>⟨hF _ (hF' hne).1,(hF' hne).2⟩) hn hx ho;have:=hc i hi;rw[<-this];exact N3 (hw.same _ (hF' (by intro h0;simp[h0]at hi)).1 (N2 this))
 |plit cs a f hc _ hF' ho ih=>intro _ _ h1 h2;refine .plit cs a f (λi hi=>?_) (λi b hb=>ih i b hb (λ_ _ _ h=>h) (λ_ _ h=>h)) (λhne=>⟨hF _ (hF' hne).1,(hF' hne).2⟩) ho;have:=hc i hi;rw[<-this];exact N3 (hw.same _ (hF' (by intro h0;simp[h0]at hi)).1 (N2 this))
 |sref id ver off n z x blk base len a cap hη ha hlen hn hx hs=>intro _ _ h1 h2;obtain⟨t,sz,hsh,hle⟩:=hs;exact .sref id ver off n z x blk base len a cap (h1 _ _ _ hη) ha hlen hn hx ⟨t,sz,by rw[hw.shape _ (xM hsh)];exact hsh,hle⟩
 |ptr id ver off blk base len hη=>intro _ _ h1 h2;exact .ptr id ver off blk base len (h1 _ _ _ hη)
 |clo f cs vs hl _ ih=>intro _ _ h1 h2;exact .clo f cs vs hl λi a v ha hv=>ih i a v ha hv h1 h2
 |yld l blk h=>intro _ _ h1 h2;exact .yld l blk (h1 _ _ _ h)
 |mp id blk h=>intro _ _ h1 h2;exact .mp id blk (h1 _ _ _ h)
 |un p v h h1=>intro _ _ _ _;exact .un p v h h1
structure Env where
 η:Eta
 F:Nat->Prop
 O:Nat->Option Id
 X:Nat->Prop
 ζ:List Nat×(World->Prop)
def Env.V(E:Env)(w:World):AV->Value->Prop:=Ix.V E.F w E.η E.ζ.1
def Env.G(E:Env)(b:Nat):Prop:=E.F b\/E.X b
def uC(r:Loop):Loop:={r with state:=match r.state with | .done=>.ready|s=>s,pending:=none}
def Lsh(w w':World):Prop:=∀(b:Nat) (r:Loop),w.heap[b]?=some (.loop r)->∃r':Loop,w'.heap[b]?=some (.loop r')/\uC r'=uC r
def N4:Out->Option Code
 | .normal=>none
 | .exit i=>some (.exit i)
 | .ret=>some .ret
def LpSt:Option Out->Loop->Prop
 |none,r=>r.state≠.done/\r.pending=none
 |some o,r=>r.state≠.ready/\r.pending=N4 o
theorem Lsh.refl(w:World):Lsh w w:=λ_ r h=>⟨r,h,rfl⟩
theorem Lsh.trans{w w1 w2:World}(h:Lsh w w1)(h':Lsh w1 w2):Lsh w w2:=λb r e=>by obtain⟨r1,e1,n1⟩:=h b r e;obtain⟨r2,e2,n2⟩:=h' b r1 e1;exact⟨r2,e2,n2.trans n1⟩
theorem l8{w:World}{b:Nat}{o:Obj}(h:w.heap[b]?=some o):b<w.heap.size:=(xf0.1 h).1
theorem Lsh.of_same{w w':World}(h:∀b,b<w.heap.size->w'.heap[b]?=w.heap[b]?):Lsh w w':=λb r e=>⟨r,by rw[h b (l8 e)];exact e,rfl⟩
theorem Lsh.of_heap{w w':World}(h:w'.heap=w.heap):Lsh w w':=.of_same λb _=>by rw[h]
theorem Lsh.of_one{w w':World}{blk:Nat}{o:Obj}(ho:w.heap[blk]?=some o)(hn:∀r,o≠.loop r)(h:∀b,b≠blk->w'.heap[b]?=w.heap[b]?):Lsh w w':=λb r e=>by refine⟨r,?_,rfl⟩;rw[h b (λx=>by subst x;rw[ho]at e;exact hn r (xdn e))];exact e
def Szd(ents:Array MapEntry)(clock n:Nat):Prop:=ents.size=n/\(∀x∈ents.toList,x.born<clock)/\(ents.toList.map (·.born)).Nodup
def Bow(w:World)(e:TypeId)(v:Value)(l:List UInt8):Prop:=w.ownsRow 0 e 1 v l.length (Lib.byteCells l)/\(l=[]->v=.slice none 0 0)
theorem Bow.keep{w w':World}{e:TypeId}{v:Value}{l:List UInt8}(h:Bow w e v l)(hh:∀g,v.ownBlock=some g->w'.heap[g]?=w.heap[g]?):Bow w' e v l:=by
 obtain⟨⟨h1,h2⟩,h3⟩:=h;refine⟨⟨h1,?_⟩,h3⟩;rcases h2 with h2|⟨g,cap,cur,e1,e2,e3,e4⟩
 .exact .inl h2
 .exact .inr ⟨g,cap,cur,e1,e2,by rw[hh g (by rw[e1];rfl)];exact e3,e4⟩
def ObOK(E:Env)(w:World)(id:Id):Ob->Prop
 | .lp d=>∃blk r,E.η id 0=some (blk,0,0)/\(∀v',0<v'->E.η id v'=none)/\w.heap[blk]?=some (.loop r)/\E.O blk=some id/\LpSt d r
 | .row cs ver fr=>∃blk base arr t,E.η id ver=some (blk,base,cs.length)/\(∀v',ver<v'->E.η id v'=none)/\w.heap[blk]?=some (.cells arr t (0,0)) /\
  base+cs.length<=arr.size/\(∀i a,cs[i]?=some a->∃v,arr[base+i]?=some v/\E.V w a v/\v.oneCell'=true)/\(if fr then E.F blk else E.O blk=some id)
 | .map es=>∃blk ents clock,E.η id 0=some (blk,0,0)/\(∀v',0<v'->E.η id v'=none)/\w.heap[blk]?=some (.map ents clock)/\Szd ents clock es.length /\
  (∀(i:Nat) (e:Value×AV) (m:MapEntry),es[i]?=some e->ents[i]?=some m->m.key=e.1/\E.V w e.2 m.val)/\E.O blk=some id
 | .bld t e l=>∃blk p v,E.η id 0=some (blk,0,2)/\(∀v',0<v'->E.η id v'=none)/\w.heap[blk]?=some (.cells #[p,v] t (0,0))/\(p=.pointer none\/p=.pointer (some ⟨blk,0,none⟩))/\Bow w e v l /\
  v.ownBlock≠some blk/\E.O blk=some id/\∀g,v.ownBlock=some g->E.O g=some id
structure Sim (E:Env) (w:World) (st:St):Prop where
 obj:∀id o,st.objs id=some o->ObOK E w id o
 dom:∀id ver x,E.η id ver=some x->id.1<st.next
 own:∀b id,E.O b=some id->¬E.F b/\¬E.X b/\b<w.heap.size
 fin:∀b,E.G b->b<w.heap.size
 gl:∀w',Ext E.F w w'->E.ζ.2 w'
structure Later (E:Env) (w:World) (E':Env) (w':World):Prop where
 η:∀id ver x,E.η id ver=some x->E'.η id ver=some x
 F:∀b,E.F b->E'.F b
 newF:∀b,E'.F b->E.F b\/w.heap.size<=b\/E.O b≠none
 newO:∀b id,E'.O b=some id->E.O b=some id\/w.heap.size<=b
 X:∀b,E.X b->E'.X b
 newX:∀b,E'.X b->E.X b\/w.heap.size<=b
 ζ:E'.ζ=E.ζ
 ext:Ext E.G w w'
 lsh:Lsh w w'
 lock:∀id ver x,E.η id ver=some x->(∀v,ver<v->E.η id v=none)->E.G x.1->∀v,E'.η id v=E.η id v
theorem Later.refl(E:Env)(w:World):Later E w E w:=
 ⟨λ_ _ _ h=>h,λ_ h=>h,λ_ h=>.inl h,λ_ _ h=>.inl h,λ_ h=>h,λ_ h=>.inl h,rfl,Ext.refl _ _,Lsh.refl _,λ_ _ _ _ _ _ _=>rfl⟩
theorem Later.trans{E E1 E2:Env}{w w1 w2:World}(h:Later E w E1 w1)(h':Later E1 w1 E2 w2):Later E w E2 w2 where
 η id ver x e:=h'.η _ _ _ (h.η _ _ _ e)
 F b e:=h'.F b (h.F b e)
 newF b e:=by
  rcases h'.newF b e with h1|h1|h1
  .exact h.newF b h1
  .exact .inr (.inl (xd4 h.ext.size h1))
  .cases ho:E1.O b with
   |none=>exact absurd ho h1
   |some id=>rcases h.newO b id ho with h2|h2
             .exact .inr (.inr (by rw[h2];simp))
             .exact .inr (.inl h2)
 newO b id e:=by
  rcases h'.newO b id e with h1|h1
  .exact h.newO b id h1
  .exact .inr (xd4 h.ext.size h1)
 X b e:=h'.X b (h.X b e)
 newX b e:=by
  rcases h'.newX b e with h1|h1
  .exact h.newX b h1
  .exact .inr (xd4 h.ext.size h1)
 ζ:=h'.ζ.trans h.ζ
 ext:=h.ext.trans h'.ext λb _ g=>by
  rcases g with g|g
  .exact .inl (h.F b g)
  .exact .inr (h.X b g)
 lsh:=h.lsh.trans h'.lsh
 lock id ver x e ht g v:=by
  have h1:=h.lock id ver x e ht g
  rw[<-h1 v]
  refine h'.lock id ver x (by rw[h1];exact e) (λv hv=>by rw[h1];exact ht v hv) ?_ v
  rcases g with g|g
  .exact .inl (h.F _ g)
  .exact .inr (h.X _ g)
theorem Sim.gl2{E E':Env}{w w':World}{st:St}(hS:Sim E w st)(hF:∀b,E.F b->E'.F b)(hζ:E'.ζ=E.ζ)(hx:Ext E.F w w'):∀w2,Ext E'.F w' w2->E'.ζ.2 w2:=λw2 h=>by rw[hζ];exact hS.gl w2 (hx.trans h λb _ g=>hF b g)
theorem Later.gl{E E':Env}{w w':World}{st:St}(l:Later E w E' w')(hS:Sim E w st):∀w2,Ext E'.F w' w2->E'.ζ.2 w2:=λw2 h=>by rw[l.ζ];exact hS.gl w2 ((l.ext.weaken λ_ _ g=>.inl g).trans h λb _ g=>l.F b g)
theorem Env.V.later{E E':Env}{w w':World}{a:AV}{v:Value}(h:E.V w a v)(l:Later E w E' w'):E'.V w' a v:=
 Ix.V.mono l.F (l.ext.weaken λ_ _ g=>.inl g) h l.η (λ_ _ e=>by rw[l.ζ];exact e)
theorem B7{F:Nat->Prop}{w:World}{η:Eta}{ζ:List Nat}(v:Value):V F w η ζ (sE v) v:=by
 cases v with
 |agg cs=>
  refine .agg _ _ (by simp) λi a v ha hv=>?_
  simp at ha;obtain⟨u,hu,rfl⟩:=ha;rw[hv]at hu;cases hu;exact .sc _
 |tuple cs=>
  refine .tup _ _ (by simp) λi a v ha hv=>?_
  simp at ha;obtain⟨u,hu,rfl⟩:=ha;rw[hv]at hu;cases hu;exact .sc _
 |_=>exact .sc _
theorem N5{F:Nat->Prop}{w:World}{η:Eta}{ζ:List Nat}{l:List Value}{i:Nat}{a:AV}(h:(l.map AV.sc)[i]?=some a):∃v,l[i]?=some v/\V F w η ζ a v:=by simp at h;obtain⟨u,hu,rfl⟩:=h;exact⟨u,hu,.sc _⟩
theorem x4d:∀{cs:List AV} {l:List Value},scs cs=some l->cs=l.map .sc
 |[],_,h=>by simp[scs]at h;subst h;rfl
 |a::cs,l,h=>by
  cases a with
  |sc v=>
   simp only[scs]at h;split at h
   .rename_i l' hl';cases h;rw[x4d hl'];rfl
   .cases h
  |_=>simp[scs]at h
theorem uJ{F:Nat->Prop}{w:World}{η:Eta}{ζ:List Nat}{a:AV}{v u:Value}(h:V F w η ζ a v)(ht:rA a=some u):v=u:=by
 cases h with
 |sc v=>simp[rA]at ht;exact ht
 |agg cs vs hl h=>
  simp only[rA]at ht;split at ht
  .rename_i l hs;cases ht;have e:=x4d hs;subst e;congr 1;apply xf1;intro i;by_cases hi:i<l.length
   .have hvs:i<vs.size:=(by rw[hl];simpa using hi);have hv:vs[i]?=some vs[i]:=(by rw[xcl]);have h1:∀(a:AV) (v:Value),a=.sc l[i]->V F w η ζ a v->v=l[i]:=(by intro a v e hV;subst e;cases hV;rfl);have:=h1 _ _ rfl (h i (.sc l[i]) vs[i] (by simp[hi]) hv);rw[hv,this];simp[hi]
   .have:¬i<vs.size:=(by rw[hl];simpa using hi);rw[xe8 (by omega)];simp;omega
  .cases ht
 |clo f cs vs hl h=>
  cases cs with
  |nil=>simp[rA]at ht;have:vs=#[]:=(by simpa using hl);rw[this];exact ht
  |cons _ _=>simp[rA]at ht
 |_=>simp[rA]at ht
theorem x4e{F:Nat->Prop}{w:World}{η:Eta}{ζ:List Nat}:∀{l:List AV} {vs us:List Value},l.length=vs.length->(∀(i:Nat) (a:AV) (v:Value),l[i]?=some a->vs[i]?=some v->V F w η ζ a v)->sO l=some us->vs=us
 |[],vs,us,hl,_,ht=>by
  simp[sO]at ht;cases vs with
  |nil=>exact ht.symm
  |cons _ _=>simp at hl
 |a::l,vs,us,hl,h,ht=>by
  cases vs with
  |nil=>simp at hl
  |cons v vs=>
   simp only[sO]at ht;split at ht
   .rename_i u us' hu hus;cases ht;have e1:=uJ (h 0 a v rfl rfl) hu;have e2:=x4e (l:=l) (vs:=vs) (by simpa using hl) (λi a v ha hv=>h (i+1) a v ha hv) hus;rw[e1,e2]
   .cases ht
theorem yM{P:Program}{α:Type}:∀{s:Sem α} {a:α},qR P s=some a->∀w,s.run P w=.ok a w:=by
 intro s;induction s with
 |pure b=>intro a h w;simp[qR]at h;subst h;rfl
 |program k ih=>intro a h w;simp only[qR]at h;simpa[Sem.run]using ih P h w
 |mark m k ih=>intro a h w;simp only[qR]at h;simpa[Sem.run]using ih h w
 |_=>intro a h;simp[qR]at h
theorem V_one{F:Nat->Prop}{w:World}{η:Eta}{ζ:List Nat}{a:AV}{v:Value}(h:V F w η ζ a v)(ho:a.one=true):v.oneCell'=true:=by
 cases h with
 |un p v h h1=>exact h1.2.1
 |_=>simp_all [AV.one,Value.oneCell']
theorem safe_run{P:Program}{α:Type}:∀{s:Sem α},zJ P s->∀w:World,∃v n,s.run P w=.ok v {w with drawn:=n}/\may P s v:=by
 intro s;induction s with
 |pure a=>intro _ w;exact⟨a,w.drawn,rfl,rfl⟩
 |program k ih=>intro h w;exact ih P h w
 |mark m k ih=>intro h w;exact ih h w
 |choose q k ih=>
  intro h w;simp only[zJ]at h;by_cases hq:q.forced=true
  .rw[xc2 hq]at h;obtain⟨v,n,h1,h2⟩:=ih 0 h w;exact⟨v,n,by simpa[Sem.run,hq]using h1,by simpa[may,hq]using h2⟩
  .rw[xc1 hq]at h;obtain⟨v,n,h1,h2⟩:=ih _ (h (w.tape w.drawn q)) {w with drawn:=w.drawn+1};refine⟨v,n,by simpa[Sem.run,hq]using h1,?_⟩;simp only[may,hq];exact⟨_,h2⟩
 |_=>intro h;exact absurd h (by simp[zJ])
theorem x4f{F:Nat->Prop}{w:World}{η:Eta}{ζ:List Nat}:∀{l:List AV} {vs us:List Value},zK l vs->l.length=us.length->(∀(i:Nat) (a:AV) (u:Value),l[i]?=some a->us[i]?=some u->V F w η ζ a u)->zK l us
 |[],_,[],_,_,_=>trivial
 |[],_,_::_,_,hl,_=>by simp at hl
 |_::_,_,[],_,hl,_=>by simp at hl
 |a::l,[],_::_,h,_,_=>h.elim
 |a::l,v::vs,u::us,h,hl,hV=>by
  refine⟨?_,x4f h.2 (by simpa using hl) λi a u ha hu=>hV (i+1) a u ha hu⟩;have h0:=hV 0 a u rfl rfl;have h1:=h.1;cases a with
  |un p=>cases h0 with|un _ _ h2 _=>exact h2
  |_=>have e:rA _=some v:=h1;rw[uJ h0 e];exact e
theorem x4g:∀{l:List AV} {vs:List Value},zK l vs->l.all vOK=true
 |[],[],_=>rfl
 |[],_::_,h=>h.elim
 |_::_,[],h=>h.elim
 |a::l,v::vs,h=>by
  rw[xdo,x4g h.2,xem];have h1:=h.1;cases a with
  |un p=>rfl
  |_=>have e:rA _=some v:=h1;simp only[vOK];rw[e];rfl
theorem x4h:∀{l:List AV} {us:List Value},sO l=some us->l.all vOK=true
 |[],_,_=>rfl
 |a::l,us,h=>by
  simp only[sO]at h;split at h
  .rename_i u us' hu hus;rw[xdo,x4h hus,xem];cases a with
   |un p=>rfl
   |_=>simp only[vOK];rw[hu];rfl
  .cases h
theorem canon_V{F:Nat->Prop}{w:World}{η:Eta}{ζ:List Nat}{q:Value->Prop}{u:Value}{r:AV}(hr:canon q=some r)(h:q u):V F w η ζ r u:=by
 unfold canon at hr;split at hr
 .rename_i hc;cases hr;rw[<-Classical.choose_spec hc u h];exact .sc u
 .split at hr
  .rename_i h1;cases hr;exact .un q u h (h1 u h)
  .cases hr
theorem x4i{P:Program}{l:List AV}{s:List Value->Sem Value}{v:AV}(h:zL P l s=some v):(∃vs,zK l vs)/\∀(F:Nat->Prop) (w:World) (η:Eta) (ζ:List Nat) (us:List Value),l.length=us.length->(∀(i:Nat) (a:AV) (u:Value),l[i]?=some a->us[i]?=some u->V F w η ζ a u) ->
 ∃u n,(s us).run P w=.ok u {w with drawn:=n}/\∀(F':Nat->Prop) (w':World) (η':Eta) (ζ':List Nat),V F' w' η' ζ' v u:=by
 unfold zL at h;split at h
 .rename_i hc;obtain⟨⟨vs,hvs⟩,h2⟩:=hc;refine⟨⟨vs,hvs⟩,λF w η ζ us hl hV=>?_⟩;have hcs:=x4f hvs hl hV;obtain⟨u,n,hr,hm⟩:=safe_run (h2 us hcs) w;exact⟨u,n,hr,λ_ _ _ _=>canon_V h ⟨us,hcs,hm⟩⟩
 .cases h
theorem N6{F:Nat->Prop}{w:World}{η:Eta}{ζ:List Nat}{a:AV}{v:Value}(h:V F w η ζ a v):v.cells.size=a.cells.length/\∀(i:Nat) (b:AV),a.cells[i]?=some b->∃u,v.cells[i]?=some u/\V F w η ζ b u:=by
 have one:∀{a:AV} {v:Value},V F w η ζ a v->v.cells=#[v]->a.cells=[a]->v.cells.size=a.cells.length/\∀(i:Nat) (b:AV),a.cells[i]?=some b->∃u,v.cells[i]?=some u/\V F w η ζ b u:=by
  intro a v h e1 e2;rw[e1,e2];refine⟨rfl,λi b hb=>?_⟩;cases i with
  |zero=>simp at hb;subst hb;exact⟨v,rfl,h⟩
  |succ i=>simp at hb
 cases h with
 |sc v=>refine⟨by simp[AV.cells],λi b hb=>?_⟩;simp only[AV.cells]at hb;obtain⟨u,hu,hv⟩:=N5 (F:=F) (w:=w) (η:=η) (ζ:=ζ) hb;exact⟨u,by simpa using hu,hv⟩
 |agg cs vs hl h=>refine⟨hl,λi b hb=>?_⟩;have hi:i<vs.size:=(by rw[hl];exact(xcw.1 hb).1);exact⟨vs[i],by simp[Value.cells,hi],h i b vs[i] hb (by simp[hi])⟩
 |tup cs vs hl h=>exact one (.tup cs vs hl h) rfl rfl
 |slit cs n x a cap f hc h hF hn hx ho=>exact one (.slit cs n x a cap f hc h hF hn hx ho) rfl rfl
 |plit cs a f hc h hF ho=>exact one (.plit cs a f hc h hF ho) rfl rfl
 |sref id ver off n z x blk base len a cap hη ha hlen hn hx hs=>exact one (.sref id ver off n z x blk base len a cap hη ha hlen hn hx hs) rfl rfl
 |ptr id ver off blk base len hη=>exact one (.ptr id ver off blk base len hη) rfl rfl
 |clo f cs vs hl h=>exact one (.clo f cs vs hl h) rfl rfl
 |yld l blk h=>exact one (.yld l blk h) rfl rfl
 |mp id blk h=>exact one (.mp id blk h) rfl rfl
 |un p v h h1=>exact one (.un p v h h1) h1.1 rfl
theorem zQ{b o n:Nat}:(Addr.mk b o none).add n=⟨b,o+n,none⟩:=by
 unfold Addr.add;split
 .rename_i h;subst h;rfl
 .rfl
theorem x4j{P:Program}{w:World}{b o:Nat}{f:Nat->Value}:∀(n i:Nat) (acc:Array Value),(∀j,j<n->w.cell? ⟨b,o+(i+j),none⟩=some (f (i+j))) ->
 (loadCellsFrom ⟨b,o,none⟩ i n acc).run P w=.ok (acc++(Array.ofFn (n:=n) λk=>f (i+k))) w
 |0,i,acc,_=>by simp[loadCellsFrom]
 |n+1,i,acc,h=>by
  have h0:=h 0 (by omega);simp only[xe9]at h0;simp only[loadCellsFrom,Sem.run_bind,zQ,run_load,h0,Result.andThen_ok]
  rw[x4j n (i+1) (acc.push (f i)) (λj hj=>by
   have:=h (j+1) (by omega)
   rw[show i+1+j=i+(j+1)from by omega];exact this)]
  congr 1;apply Array.ext';simp[List.ofFn_succ,xde,Nat.add_comm 1]
theorem x4k{P:Program}{w:World}{b o:Nat}{f:Nat->Value}{n:Nat}(h:∀j,j<n->w.cell? ⟨b,o+j,none⟩=some (f j)) :
 (loadCells ⟨b,o,none⟩ n).run P w=.ok (Array.ofFn (n:=n) λk=>f k) w:=by
 have:=x4j (P:=P) (w:=w) (b:=b) (o:=o) (f:=f) n 0 #[] (λj hj=>by simpa using h j hj);simpa[loadCells]using this
theorem rC{P:Program}{w:World}{t:TypeId}{d:TypeDesc}(h:P.underlying t=some d):(underlying t).run P w=.ok d w:=by simp[underlying,h]
theorem y7{P:Program}{w:World}{t:TypeId}{i:TypeInfo}(h:P.info? t=some i):(typeInfo t).run P w=.ok i w:=by simp[typeInfo,h]
theorem tV{P:Program}{w:World}{t:TypeId}{i:TypeInfo}(h:P.info? t=some i):(sizeOf t).run P w=.ok i.size w:=by simp[sizeOf,y7 h]
theorem H0{P:Program}{t:TypeId}{g:Bool}{z:Nat}(h:ty P t=some (g,z)):(∀w,(isAgg t).run P w=.ok g w)/\∀w,(sizeOf t).run P w=.ok z w:=by
 unfold ty at h;split at h;all_goals first
  |(rename_i d i hd hi
    simp only[xc4,xc3]at h
    obtain⟨rfl,rfl⟩:=h
    refine⟨λw=>?_,λw=>tV hi⟩
    simp only[isAgg,Sem.run_bind,rC hd,Result.andThen_ok]
    rfl)
  |(rename_i d i hn1 hn2 hd hi
    simp only[xc4,xc3]at h
    obtain⟨rfl,rfl⟩:=h
    refine⟨λw=>?_,λw=>tV hi⟩
    simp only[isAgg,Sem.run_bind,rC hd,Result.andThen_ok]
    cases d<;>first|rfl|exact absurd rfl (hn1 _)|exact absurd rfl (hn2 _ _))
  |cases h
theorem N7{P:Program}{F:Nat->Prop}{w:World}{η:Eta}{ζ:List Nat}{t:TypeId}{g:Bool}{z:Nat}(ht:ty P t=some (g,z)){cs:List AV}{b o:Nat}{r:AV}(hr:rd g z cs=some r)(hc:∀(i:Nat) (a:AV),cs[i]?=some a->∃v,w.cell? ⟨b,o+i,none⟩=some v/\V F w η ζ a v) :
 ∃v,(loadVar t ⟨b,o,none⟩).run P w=.ok v w/\V F w η ζ r v:=by
 obtain⟨ha,hz⟩:=H0 ht;unfold rd at hr;cases g with
 |false=>simp only[xcv,xck]at hr;have:cs[0]?=some r:=(by rw[<-List.head?_eq_getElem?];exact hr);obtain⟨v,hv,hV⟩:=hc 0 r this;refine⟨v,?_,hV⟩;simp only[xe9]at hv;simp[loadVar,ha,hv]
 |true=>
  simp only[xcm]at hr;split at hr
  .rename_i hle;cases hr;have hex:∀j:Nat,∃v:Value,j<z->w.cell? ⟨b,o+j,none⟩=some v/\∀a,cs[j]?=some a->V F w η ζ a v:=by
    intro j;by_cases hj:j<z
    .obtain⟨v,hv,hV⟩:=hc j cs[j] (by simp[show j<cs.length from by omega]);exact⟨v,λ_=>⟨hv,λa ha=>by rw[xci (by omega)]at ha;cases ha;exact hV⟩⟩
    .exact⟨undef,λh=>absurd h hj⟩
   obtain⟨f,hf⟩:=Classical.axiomOfChoice hex;refine⟨.agg (Array.ofFn (n:=z) λk=>f k),?_,.agg _ _ (by simp;omega) λi a v ha' hv=>?_⟩
   .simp only[loadVar,Sem.run_bind,ha,hz,Result.andThen_ok,xcm,x4k (f:=f) (λj hj=>(hf j hj).1),Sem.run_pure]
   .have hi:i<z:=by
     rcases xcu i z with h|h
     .exact h
     .rw[xe8 (by simp;omega)]at hv;cases hv
    have e:f i=v:=(by rw[xcl (by simpa using hi)]at hv;simpa using hv);rw[<-e];refine(hf i hi).2 a ?_;rw[xe2]at ha';rw[xc2 hi]at ha';exact ha'
  .cases hr
theorem B8{w:World}{b j:Nat}{arr:Array Value}{t:TypeId}{fz:Nat×Nat}(h:w.heap[b]?=some (.cells arr t fz)):w.cell? ⟨b,j,none⟩=arr[j]?:=by simp[World.cell?,h]
theorem x86{P:Program}{w:World}{b o:Nat}{arr:Array Value}{t:TypeId}{v:Value}(h:w.heap[b]?=some (.cells arr t (0,0)))(ho:o<arr.size)(hv:v.oneCell'=true) :
 ∃w',(store ⟨b,o,none⟩ v).run P w=.ok () w'/\w'.heap=w.heap.setIfInBounds b (.cells (arr.setIfInBounds o v) t (0,0))/\w'.os=w.os/\w'.output=w.output:=by
 refine⟨w.setCell ⟨b,o,none⟩ v,?_,?_,rfl,rfl⟩
 .rw[run_store P w _ v _ hv];have:w.cell? ⟨b,o,none⟩=some arr[o]:=(by rw[B8 h];simp[ho]);simp[this,World.frozen?,h]
 .have hb:b<w.heap.size:=by
   rcases xcu b w.heap.size with h'|h'
   .exact h'
   .simp[xe8 h']at h
  have h2:w.heap[b]=.cells arr t (0,0):=(by rw[xcl hb]at h;exact xdn h);apply xf1;intro i;simp only[World.setCell,xfh,xfy];by_cases hi:b=i
  .subst hi;simp[hb,h2]
  .simp[hi]
theorem N8{P:Program}{b o:Nat}{t:TypeId}:∀(vs:List Value) (i:Nat) (w:World) (arr:Array Value),w.heap[b]?=some (.cells arr t (0,0))->o+i+vs.length<=arr.size->(∀v∈vs,v.oneCell'=true) ->
 ∃w' arr',(storeCells ⟨b,o,none⟩ vs i).run P w=.ok () w'/\w'.heap=w.heap.setIfInBounds b (.cells arr' t (0,0))/\arr'.size=arr.size /\
  (∀j,arr'[j]?=if o+i<=j/\j<o+i+vs.length then vs[j-(o+i)]? else arr[j]?)/\w'.os=w.os/\w'.output=w.output
 |[],i,w,arr,h,_,_=>by
  refine⟨w,arr,rfl,?_,rfl,λj=>?_,rfl,rfl⟩
  .apply xf1;intro k;rw[xfy];split
   .rename_i e;subst e;have hb:b<w.heap.size:=by
     rcases xcu b w.heap.size with h'|h'
     .exact h'
     .simp[xe8 h']at h
    rw[xc2 hb];exact h
   .rfl
  .rw[xc1 (by simp only[xea];omega)]
 |v::vs,i,w,arr,h,hl,ho=>by
  simp only[xco]at hl;obtain⟨w1,h1,hh1,ho1,hp1⟩:=x86 (P:=P) (o:=o+i) h (by omega) (ho v (by simp));have hb:b<w.heap.size:=by
   rcases xcu b w.heap.size with h'|h'
   .exact h'
   .simp[xe8 h']at h
  obtain⟨w2,arr2,h2,hh2,hs2,hc2,ho2,hp2⟩:=N8 (P:=P) (b:=b) (o:=o) (t:=t) vs (i+1) w1 (arr.setIfInBounds (o+i) v) (by rw[hh1];simp[hb]) (by rw[xfz];omega) (λu hu=>ho u (by simp[hu]));refine⟨w2,arr2,?_,?_,by rw[hs2];simp,λj=>?_,ho2.trans ho1,hp2.trans hp1⟩
  .simp only[storeCells,Sem.run_bind,zQ,h1,Result.andThen_ok,h2]
  .rw[hh2,hh1];apply xf1;intro k;simp only[xfy,xfz];by_cases hk:b=k
   .simp[hk]
   .simp[hk]
  .rw[hc2 j];simp only[xco];by_cases hj:j=o+i
   .subst hj;rw[xc1 (by omega),xc2 (by omega)];simp[show o+i<arr.size from by omega]
   .by_cases hj2:o+(i+1)<=j/\j<o+(i+1)+vs.length
    .rw[xc2 hj2,xc2 (by omega)];rw[show j-(o+i)=(j-(o+(i+1)))+1 from by omega];rfl
    .rw[xc1 hj2,xc1 (by omega),xdj (by omega)]
theorem uX{w:World}{b:Nat}{arr:Array Value}{t:TypeId}{fz:Nat×Nat}(h:w.heap[b]?=some (.cells arr t fz)):w.shape? b=some (t,arr.size):=by simp[World.shape?,h]
theorem Sim.turn0{E E':Env}{w w':World}{st:St}{id:Id}{o:Ob}(hS:Sim E w st)(hid:id.1<st.next)(hη:∀i v x,E.η i v=some x->E'.η i v=some x)(hη':∀i v,i≠id->E'.η i v=E.η i v)(hF:E'.F=E.F)(hX:E'.X=E.X)(hζ:E'.ζ=E.ζ)(hO:∀b,b<w.heap.size->E'.O b=E.O b)(hO':∀b i,w.heap.size<=b->E'.O b=some i->i=id/\b<w'.heap.size)(hsz:w.heap.size<=w'.heap.size)(hsh:∀b,b<w.heap.size->w'.shape? b=w.shape? b)(hsame:∀b,b<w.heap.size->E.O b≠some id->w'.heap[b]?=w.heap[b]?)(hob:ObOK E' w' id o)(hos:w'.os=w.os:=by first|assumption|rfl)(hout:w'.output=w.output:=by first|assumption|rfl)(hlk:(∀v,E'.η id v=E.η id v)\/(∀v,E.η id v=none)\/∃cs ver,st.objs id=some (.row cs ver false):=by first|exact .inl λ_=>rfl|exact .inr (.inl (by assumption))|exact .inr (.inr ⟨_,_,by assumption⟩)) :
 Sim E' w' {st with objs:=qM st.objs id (some o)}/\(Lsh w w'->Later E w E' w'):=by
 have hx:Ext E.G w w':=⟨hsz,hsh,λb g hb=>hsame b hb λho=>by
  have:=hS.own b id ho
  rcases g with g|g
  .exact this.1 g
  .exact this.2.1 g,hos,hout⟩
 have hl:Lsh w w'->Later E w E' w':=λhls=>by
  refine⟨hη,λb h=>by rw[hF];exact h,λb h=>.inl (by rw[<-hF];exact h),λb i h=>?_,λb h=>by rw[hX];exact h,λb h=>.inl (by rw[<-hX];exact h),hζ,hx,hls,λi ver x e ht g v=>?_⟩
  .rcases xcu b w.heap.size with hb|hb
   .rw[hO b hb]at h;exact .inl h
   .exact .inr hb
  .by_cases hi:i=id
   .subst hi;rcases hlk with h|h|⟨cs,ver',h⟩
    .exact h v
    .rw[h]at e;cases e
    .exfalso;obtain⟨blk,base,arr,t,h1,h2,h3,h4,h5,h6⟩:=hS.obj i _ h;have:ver=ver':=by
      rcases Nat.lt_trichotomy ver ver' with hv|hv|hv
      .rw[ht _ hv]at h1;cases h1
      .exact hv
      .rw[h2 _ hv]at e;cases e
     subst this;rw[h1]at e;cases e;simp only[xcv,xck]at h6;have:=hS.own _ _ h6;rcases g with g|g
     .exact this.1 g
     .exact this.2.1 g
   .exact hη' i v hi
 have hVV:∀{a v},E.V w a v->E'.V w' a v:=λh=>V.mono (λb hb=>by rw[hF];exact hb) (hx.weaken λ_ _ g=>.inl g) h hη (λ_ _ e=>by rw[hζ];exact e)
 refine⟨⟨?_,?_,?_,?_,hS.gl2 (λb h=>by rw[hF];exact h) hζ (hx.weaken λ_ _ g=>.inl g)⟩,hl⟩
 .intro i o' ho';simp only[qM]at ho';split at ho'
  .rename_i e;subst e;cases ho';exact hob
  .rename_i hne;have hold:=hS.obj i o' ho';cases o' with
   |row cs ver fr=>
    obtain⟨blk,base,arr,t,h1,h2,h3,h4,h5,h6⟩:=hold;have hb:blk<w.heap.size:=xM (uX h3);have hown:E.O blk≠some id:=by
     intro e;cases fr with
     |true=>exact(hS.own _ _ e).1 h6
     |false=>simp at h6;rw[h6]at e;exact hne (xdn e)
    refine⟨blk,base,arr,t,hη _ _ _ h1,λv' hv'=>by rw[hη' _ _ hne];exact h2 v' hv',by rw[hsame _ hb hown];exact h3,h4,λk a ha=>?_,?_⟩
    .obtain⟨v,hv,hV,ho1⟩:=h5 k a ha;exact⟨v,hv,hVV hV,ho1⟩
    .cases fr with
     |true=>simp at h6 ⊢;rw[hF];exact h6
     |false=>simp at h6 ⊢;rw[hO _ hb];exact h6
   |bld t e l=>
    obtain⟨blk,p,v,h1,h2,h3,h4,h5,h6,h7,h8⟩:=hold;have hs:∀b,E.O b=some i->w'.heap[b]?=w.heap[b]?:=λb hb=>hsame _ (hS.own _ _ hb).2.2 (by rw[hb];intro e;exact hne (xdn e))
    exact⟨blk,p,v,hη _ _ _ h1,λv' hv'=>by rw[hη' _ _ hne];exact h2 v' hv',by rw[hs _ h7];exact h3,h4,h5.keep λg hg=>hs _ (h8 g hg),h6,by rw[hO _ (hS.own _ _ h7).2.2];exact h7,λg hg=>by rw[hO _ (hS.own _ _ (h8 g hg)).2.2];exact h8 g hg⟩
   |lp d=>obtain⟨blk,r,h1,h2,h3,h4,h5⟩:=hold;have hb:blk<w.heap.size:=(hS.own _ _ h4).2.2;have hown:E.O blk≠some id:=(by rw[h4];intro e;exact hne (xdn e));exact⟨blk,r,hη _ _ _ h1,λv' hv'=>by rw[hη' _ _ hne];exact h2 v' hv',by rw[hsame _ hb hown];exact h3,by rw[hO _ hb];exact h4,h5⟩
   |map es=>obtain⟨blk,ents,clock,h1,h2,h3,h4,h5,h6⟩:=hold;have hb:blk<w.heap.size:=(hS.own _ _ h6).2.2;have hown:E.O blk≠some id:=(by rw[h6];intro e;exact hne (xdn e));exact⟨blk,ents,clock,hη _ _ _ h1,λv' hv'=>by rw[hη' _ _ hne];exact h2 v' hv',by rw[hsame _ hb hown];exact h3,h4,λk e m he hm=>⟨(h5 k e m he hm).1,hVV (h5 k e m he hm).2⟩,by rw[hO _ hb];exact h6⟩
 .intro i v x hx;by_cases hi:i=id
  .subst hi;exact hid
  .rw[hη' _ _ hi]at hx;exact hS.dom _ _ _ hx
 .intro b i hb;rcases xcu b w.heap.size with h|h
  .rw[hO b h]at hb;have:=hS.own b i hb;rw[hF,hX];exact⟨this.1,this.2.1,by omega⟩
  .have:=hO' b i h hb;refine⟨λhf=>?_,λhf=>?_,this.2⟩
   .have:=hS.fin b (.inl (by rw[<-hF];exact hf));omega
   .have:=hS.fin b (.inr (by rw[<-hX];exact hf));omega
 .intro b hb;have:E.G b:=by
   rcases hb with hb|hb
   .exact .inl (by rw[<-hF];exact hb)
   .exact .inr (by rw[<-hX];exact hb)
  have:=hS.fin b this;omega
theorem Sim.turn{E E':Env}{w w':World}{st:St}{id:Id}{o:Ob}(hS:Sim E w st)(hls:Lsh w w')(hid:id.1<st.next)(hη:∀i v x,E.η i v=some x->E'.η i v=some x)(hη':∀i v,i≠id->E'.η i v=E.η i v)(hF:E'.F=E.F)(hX:E'.X=E.X)(hζ:E'.ζ=E.ζ)(hO:∀b,b<w.heap.size->E'.O b=E.O b)(hO':∀b i,w.heap.size<=b->E'.O b=some i->i=id/\b<w'.heap.size)(hsz:w.heap.size<=w'.heap.size)(hsh:∀b,b<w.heap.size->w'.shape? b=w.shape? b)(hsame:∀b,b<w.heap.size->E.O b≠some id->w'.heap[b]?=w.heap[b]?)(hob:ObOK E' w' id o)(hos:w'.os=w.os:=by first|assumption|rfl)(hout:w'.output=w.output:=by first|assumption|rfl)(hlk:(∀v,E'.η id v=E.η id v)\/(∀v,E.η id v=none)\/∃cs ver,st.objs id=some (.row cs ver false):=by first|exact .inl λ_=>rfl|exact .inr (.inl (by assumption))|exact .inr (.inr ⟨_,_,by assumption⟩)) :
 Sim E' w' {st with objs:=qM st.objs id (some o)}/\Later E w E' w':=
 let h:=hS.turn0 hid hη hη' hF hX hζ hO hO' hsz hsh hsame hob hos hout hlk
 ⟨h.1,h.2 hls⟩
theorem V.of_heap{F:Nat->Prop}{w w':World}{η:Eta}{ζ:List Nat}{a:AV}{v:Value}(hh:w'.heap=w.heap)(h:V F w η ζ a v)(hos:w'.os=w.os:=by first|assumption|rfl)(hout:w'.output=w.output:=by first|assumption|rfl):V F w' η ζ a v:=
 V.mono (λ_ h=>h) ⟨by rw[hh];exact xc7 _,λb _=>by simp[World.shape?,hh],λb _ _=>by rw[hh],hos,hout⟩ h (λ_ _ _ h=>h) (λ_ _ h=>h)
theorem ObOK.of_heap{E:Env}{w w':World}{id:Id}{o:Ob}(hh:w'.heap=w.heap)(h:ObOK E w id o)(hos:w'.os=w.os:=by first|assumption|rfl)(hout:w'.output=w.output:=by first|assumption|rfl):ObOK E w' id o:=by
 cases o with
 |row cs ver fr=>obtain⟨blk,base,arr,t,h1,h2,h3,h4,h5,h6⟩:=h;exact⟨blk,base,arr,t,h1,h2,by rw[hh];exact h3,h4,λk a ha=>let⟨v,hv,hV,ho⟩:=h5 k a ha;⟨v,hv,V.of_heap hh hV hos hout,ho⟩,h6⟩
 |bld t e l=>obtain⟨blk,p,v,h1,h2,h3,h4,h5,h6,h7,h8⟩:=h;exact⟨blk,p,v,h1,h2,by rw[hh];exact h3,h4,h5.keep λg _=>by rw[hh],h6,h7,h8⟩
 |lp d=>obtain⟨blk,r,h1,h2,h3,h4⟩:=h;exact⟨blk,r,h1,h2,by rw[hh];exact h3,h4⟩
 |map es=>obtain⟨blk,ents,clock,h1,h2,h3,h4,h5,h6⟩:=h;exact⟨blk,ents,clock,h1,h2,by rw[hh];exact h3,h4,λk e m he hm=>⟨(h5 k e m he hm).1,V.of_heap hh (h5 k e m he hm).2 hos hout⟩,h6⟩
theorem Sim.of_heap{E:Env}{w w':World}{st:St}(hh:w'.heap=w.heap)(hS:Sim E w st)(hos:w'.os=w.os:=by first|assumption|rfl)(hout:w'.output=w.output:=by first|assumption|rfl):Sim E w' st:=
 ⟨λi o h=>(hS.obj i o h).of_heap hh hos hout,hS.dom,λb i h=>by rw[hh];exact hS.own b i h,λb h=>by rw[hh];exact hS.fin b h,hS.gl2 (λ_ h=>h) rfl ⟨by rw[hh];exact xc7 _,λb _=>by simp[World.shape?,hh],λb _ _=>by rw[hh],hos,hout⟩⟩
theorem Later.of_heap{E:Env}{w w':World}(hh:w'.heap=w.heap)(hos:w'.os=w.os:=by first|assumption|rfl)(hout:w'.output=w.output:=by first|assumption|rfl):Later E w E w':=
 ⟨λ_ _ _ h=>h,λ_ h=>h,λ_ h=>.inl h,λ_ _ h=>.inl h,λ_ h=>h,λ_ h=>.inl h,rfl,⟨by rw[hh];exact xc7 _,λb _=>by simp[World.shape?,hh],λb _ _=>by rw[hh],hos,hout⟩,.of_heap hh,λ_ _ _ _ _ _ _=>rfl⟩
theorem Sim.fresh{E:Env}{w w':World}{st:St}{id:Id}{cs:List AV}{arr:Array Value}{t:TypeId}(hS:Sim E w st)(hid:id.1<st.next)(hf:∀ver,E.η id ver=none)(hw:w'.heap=w.heap.push (.cells arr t (0,0)))(hlen:cs.length<=arr.size)(hc:∀(i:Nat) (a:AV),cs[i]?=some a->∃v,arr[i]?=some v/\E.V w a v/\v.oneCell'=true)(hos:w'.os=w.os:=by first|assumption|rfl)(hout:w'.output=w.output:=by first|assumption|rfl) :
 ∃E',Sim E' w' {st with objs:=qM st.objs id (some (.row cs 0 false))}/\Later E w E' w'/\E'.η id 0=some (w.heap.size,0,cs.length)/\(∀i v,i≠id->E'.η i v=E.η i v)/\E'.ζ=E.ζ:=by
 have hsame:∀b,b<w.heap.size->w'.heap[b]?=w.heap[b]?:=λb hb=>by rw[hw,xe3 hb,xcl hb]
 let E':Env:={E with η:=λi v=>if i=id/\v=0 then some (w.heap.size,0,cs.length)else E.η i v,O:=λb=>if b=w.heap.size then some id else E.O b}
 have hη:∀i v x,E.η i v=some x->E'.η i v=some x:=λi v x h=>by
  show(if _ then _ else _)=_;split
  .rename_i e;rw[e.1,hf]at h;cases h
  .exact h
 have hext:Ext E.G w w':=⟨by rw[hw];simp,λb hb=>by simp[World.shape?,hsame b hb],λb _ hb=>hsame b hb,hos,hout⟩;have hV:∀{a v},E.V w a v->E'.V w' a v:=λh=>V.mono (λ_ h=>h) (hext.weaken λ_ _ g=>.inl g) h hη (λ_ _ h=>h)
 obtain⟨h1,h2⟩:=hS.turn (E':=E') (w':=w') (id:=id) (o:=.row cs 0 false) (.of_same hsame) hid hη
  (λi v hne=>by show(if _ then _ else _)=_;rw[xc1 (λe=>hne e.1)]) rfl rfl rfl
  (λb hb=>by show(if _ then _ else _)=_;rw[xc1 (by omega)])
  (λb i hb hO=>by
   replace hO:(if b=w.heap.size then some id else E.O b)=some i:=hO
   split at hO
   .rename_i e;cases hO;exact⟨rfl,by rw[hw];simp;omega⟩
   .have:=(hS.own b i hO).2.2;omega)
  (by rw[hw];simp) (λb hb=>by simp[World.shape?,hsame b hb]) (λb hb _=>hsame b hb)
  (by
   refine⟨w.heap.size,0,arr,t,by show(if _ then _ else _)=_;rw[xc2 ⟨rfl,rfl⟩],λv' hv'=>?_,by rw[hw];simp,by omega,λi a ha=>?_,?_⟩
   .show(if _ then _ else _)=_
    rw[xc1 (by rintro⟨_,e⟩;omega)];exact hf v'
   .obtain⟨v,hv,hV',ho⟩:=hc i a ha
    exact⟨v,by simpa using hv,hV hV',ho⟩
   .simp only[xcv,xck];show(if _ then _ else _)=_;rw[xc2 rfl])
 exact⟨E',h1,h2,by show(if _ then _ else _)=_;rw[xc2 ⟨rfl,rfl⟩],λi v hne=>by show(if _ then _ else _)=_;rw[xc1 (λe=>hne e.1)],rfl⟩
section
variable{F:Nat->Prop}{w:World}{η:Eta}{ζ:List Nat}{u:Value}
theorem uK{v:Value}(h:V F w η ζ (.sc v) u):u=v:=by cases h;rfl
theorem H1{cs:List AV}(h:V F w η ζ (.agg cs) u):∃vs:Array Value,u=.agg vs/\vs.size=cs.length/\∀(i:Nat) (a:AV),cs[i]?=some a->∃v,vs[i]?=some v/\V F w η ζ a v:=by
 cases h with
 |agg _ vs hl h=>refine⟨vs,rfl,hl,λi a ha=>?_⟩;have hi:i<vs.size:=(by rw[hl];exact(xcw.1 ha).1);exact⟨vs[i],by simp[hi],h i a vs[i] ha (by simp[hi])⟩
theorem V_tup{cs:List AV}(h:V F w η ζ (.tup cs) u):∃vs:Array Value,u=.tuple vs/\vs.size=cs.length/\∀(i:Nat) (a:AV),cs[i]?=some a->∃v,vs[i]?=some v/\V F w η ζ a v:=by
 cases h with
 |tup _ vs hl h=>refine⟨vs,rfl,hl,λi a ha=>?_⟩;have hi:i<vs.size:=(by rw[hl];exact(xcw.1 ha).1);exact⟨vs[i],by simp[hi],h i a vs[i] ha (by simp[hi])⟩
theorem l9{f:FuncId}{cs:List AV}(h:V F w η ζ (.clo f cs) u):∃vs:Array Value,u=.func (.func f) #[] vs/\vs.size=cs.length/\∀(i:Nat) (a:AV),cs[i]?=some a->∃v,vs[i]?=some v/\V F w η ζ a v:=by
 cases h with
 |clo _ _ vs hl h=>refine⟨vs,rfl,hl,λi a ha=>?_⟩;have hi:i<vs.size:=(by rw[hl];exact(xcw.1 ha).1);exact⟨vs[i],by simp[hi],h i a vs[i] ha (by simp[hi])⟩
def LitAt(F:Nat->Prop)(w:World)(a:Addr)(cs:List AV):Prop:=
 (∀(i:Nat) (b:AV),cs[i]?=some b->∃v,w.cell? ⟨a.block,a.off+i,none⟩=some v/\V F w eta0 [] b v/\v.oneCell'=true)/\(cs≠[]->F a.block/\a.spot=none)
theorem LitAt.fn{a:Addr}{cs:List AV}(h:LitAt F w a cs):∃f:Nat->Value,(∀i,i<cs.length->w.cell? ⟨a.block,a.off+i,none⟩=some (f i))/\(∀(i:Nat) (b:AV),cs[i]?=some b->V F w eta0 [] b (f i))/\∀i,i<cs.length->(f i).oneCell'=true:=by
 have hex:∀j:Nat,∃v:Value,∀b,cs[j]?=some b->w.cell? ⟨a.block,a.off+j,none⟩=some v/\V F w eta0 [] b v/\v.oneCell'=true:=by
  intro j;cases hj:cs[j]? with
  |none=>exact⟨undef,λb hb=>by cases hb⟩
  |some b=>obtain⟨v,hv⟩:=h.1 j b hj;exact⟨v,λb' hb'=>by cases hb';exact hv⟩
 obtain⟨f,hf⟩:=Classical.axiomOfChoice hex;exact⟨f,λi hi=>(hf i cs[i] (by simp[hi])).1,λi b hb=>(hf i b hb).2.1,λi hi=>(hf i cs[i] (by simp[hi])).2.2⟩
theorem LitAt.drop{a:Addr}{cs:List AV}(h:LitAt F w a cs)(n:Nat):LitAt F w (a.add n) (cs.drop n):=by
 by_cases hn:n=0
 .subst hn;simpa[Addr.add]using h
 .have e:a.add n={a with off:=a.off+n,spot:=none}:=(by simp[Addr.add,hn]);rw[e];refine⟨λi b hb=>?_,λhne=>⟨(h.2 (by intro h0;simp[h0]at hne)).1,rfl⟩⟩;rw[xdq]at hb;obtain⟨v,hv⟩:=h.1 _ _ hb;exact⟨v,by simpa[xde]using hv⟩
theorem LitAt.take{a:Addr}{cs:List AV}(h:LitAt F w a cs)(n:Nat):LitAt F w a (cs.take n):=by
 refine⟨λi b hb=>?_,λhne=>h.2 (by intro h0;simp[h0]at hne)⟩;rw[xe2]at hb;split at hb
 .exact h.1 i b hb
 .cases hb
theorem LitAt.slit{a:Addr}{cs:List AV}(h:LitAt F w a cs){n cap:Nat}{x:Bool}(hn:n<=cap)(hx:x=true->cap=n):V F w η ζ (.slit cs n x) (.slice (some a) n cap):=by obtain⟨f,h1,h2,h3⟩:=h.fn;exact .slit cs n x a cap f h1 h2 h.2 hn hx h3
theorem LitAt.plit{a:Addr}{cs:List AV}(h:LitAt F w a cs):V F w η ζ (.plit cs) (.pointer (some a)):=by obtain⟨f,h1,h2,h3⟩:=h.fn;exact .plit cs a f h1 h2 h.2 h3
theorem xN{cs:List AV}{n:Nat}{x:Bool}(h:V F w η ζ (.slit cs n x) u):∃a cap,u=.slice (some a) n cap/\LitAt F w a cs/\n<=cap/\(x=true->cap=n):=by
 cases h with
 |slit _ _ _ a cap f hc h hF hn hx ho=>exact⟨a,cap,rfl,⟨λi b hb=>⟨f i,hc i (xcw.1 hb).1,h i b hb,ho i (xcw.1 hb).1⟩,hF⟩,hn,hx⟩
theorem H2{cs:List AV}(h:V F w η ζ (.plit cs) u):∃a,u=.pointer (some a)/\LitAt F w a cs:=by
 cases h with
 |plit _ a f hc h hF ho=>exact⟨a,rfl,⟨λi b hb=>⟨f i,hc i (xcw.1 hb).1,h i b hb,ho i (xcw.1 hb).1⟩,hF⟩⟩
theorem xO{id:Id}{ver off:Nat}(h:V F w η ζ (.ptr id ver off) u):∃blk base len,η id ver=some (blk,base,len)/\u=.pointer (some ⟨blk,base+off,none⟩):=by
 cases h with
 |ptr _ _ _ blk base len hη=>exact⟨blk,base,len,hη,rfl⟩
theorem V_yld{l:Id}(h:V F w η ζ (.yld l) u):∃blk,η l 0=some (blk,0,0)/\u=.func (.yield blk) #[] #[]:=by
 cases h with
 |yld _ blk h=>exact⟨blk,h,rfl⟩
theorem V_mp{id:Id}(h:V F w η ζ (.mp id) u):∃blk,η id 0=some (blk,0,0)/\u=.map (some blk):=by
 cases h with
 |mp _ blk h=>exact⟨blk,h,rfl⟩
theorem uL{id:Id}{ver off n z:Nat}{x:Bool}(h:V F w η ζ (.sref id ver off n z x) u):∃blk base len a cap,η id ver=some (blk,base,len)/\u=.slice (some a) n cap/\(a=⟨blk,base+off,none⟩\/cap=0)/\off+n*z<=len/\n<=cap /\
 ((x=true->len<=off+cap*z)/\(x=false->cap=n))/\∃t sz,w.shape? blk=some (t,sz)/\base+off+cap*z<=sz:=by
 cases h with
 |sref _ _ _ _ _ _ blk base len a cap hη ha hlen hn hx hs=>exact⟨blk,base,len,a,cap,hη,rfl,ha,hlen,hn,hx,hs⟩
end
theorem zR{E:Env}{w:World}{st:St}(hS:Sim E w st){id:Id}{cs:List AV}{ver:Nat}{fr:Bool}{blk base len:Nat}(h:st.objs id=some (.row cs ver fr))(hη:E.η id ver=some (blk,base,len)) :
 len=cs.length/\(∀v',ver<v'->E.η id v'=none)/\∃arr t,w.heap[blk]?=some (.cells arr t (0,0))/\base+cs.length<=arr.size /\
  (∀i a,cs[i]?=some a->∃v,arr[base+i]?=some v/\E.V w a v/\v.oneCell'=true)/\(if fr then E.F blk else E.O blk=some id):=by
 obtain⟨b',s',arr,t,h1,h2,h3,h4,h5,h6⟩:=hS.obj id _ h;rw[hη]at h1;cases h1;exact⟨rfl,h2,arr,t,h3,h4,h5,h6⟩
def Ok(P:Program)(E:Env)(w:World)(st:St)(id0:Id)(s:Sem Next)(v:AV)(objs':Id->Option Ob):Prop:=
 ∃nx u E' w',s.run P w=.ok nx w'/\(nx=.value u\/(nx=.skip/\u=undef))/\E'.V w' v u/\Sim E' w' {st with objs:=objs' }/\Later E w E' w' /\
  ∀id ver,E'.η id ver≠none->E.η id ver≠none\/id=id0\/∃v0,E.η id v0≠none
section
variable{P:Program}{E:Env}{w:World}{st:St}{id0:Id}{sl:Nat->AV}{ρ:Operand->Value}{o:Oper}{v:AV}{objs':Id->Option Ob}
theorem Ok.quiet{s:Sem Next}{u:Value}(hS:Sim E w st)(hr:s.run P w=.ok (.value u) w)(hV:E.V w v u)(ho:objs'=st.objs):Ok P E w st id0 s v objs':=by subst ho;exact⟨_,u,E,w,hr,.inl rfl,hV,hS,.refl _ _,λ_ _ h=>.inl h⟩
theorem Ok.pure{s:Sem Value}{u:Value}(hS:Sim E w st)(hr:qR P s=some u):Ok P E w st id0 (do pure (.value (<-s))) (sE u) st.objs:=
 Ok.quiet hS (by simp[yM hr]) (B7 u) rfl
theorem vV{F:Nat->Prop}{η:Eta}{ζ:List Nat}{a:AV}{u:Value}{n:Int}(h:V F w η ζ a u)(ha:asI a=some n):∃k,u=.int k n:=by
 cases h with
 |sc v=>cases u<;>simp[asI]at ha;rename_i k m;subst ha;exact⟨k,rfl⟩
 |_=>simp[asI]at ha
theorem ok_move{x:Operand}(hS:Sim E w st)(hsl:∀x:Operand,E.V w (ev sl x) (ρ x))(ho:o.op=.move x)(h:qH P id0 o sl st.objs=some (v,objs')):Ok P E w st id0 (execOp ρ o) v objs':=by simp only[qH,ho,xc4,xc3]at h;obtain⟨rfl,rfl⟩:=h;exact .quiet hS (by simp[execOp,ho]) (hsl x) rfl
theorem ok_assign{x:Operand}(hS:Sim E w st)(hsl:∀x:Operand,E.V w (ev sl x) (ρ x))(ho:o.op=.assign x)(h:qH P id0 o sl st.objs=some (v,objs')):Ok P E w st id0 (execOp ρ o) v objs':=by simp only[qH,ho,xc4,xc3]at h;obtain⟨rfl,rfl⟩:=h;exact .quiet hS (by simp[execOp,ho]) (hsl x) rfl
theorem ok_pick{c x y:Operand}(hS:Sim E w st)(hsl:∀x:Operand,E.V w (ev sl x) (ρ x))(ho:o.op=.pick c x y)(h:qH P id0 o sl st.objs=some (v,objs')):Ok P E w st id0 (execOp ρ o) v objs':=by
 simp only[qH,ho]at h;split at h
 .rename_i t hc;simp only[xc4,xc3]at h;obtain⟨rfl,rfl⟩:=h;have hV:=hsl c;rw[hc]at hV;have e:=uK hV;refine .quiet (u:=if t then ρ x else ρ y) hS ?_ ?_ rfl
  .simp[execOp,ho,asBool,e]
  .cases t
   .exact hsl y
   .exact hsl x
 .cases h
theorem Ok.abs{l:List AV}{us:List Value}{s:List Value->Sem Value}{v:AV}(hS:Sim E w st)(h:zL P l s=some v)(hl:l.length=us.length)(hV:∀(i:Nat) (a:AV) (u:Value),l[i]?=some a->us[i]?=some u->E.V w a u):Ok P E w st id0 (do Pure.pure (.value (<-s us))) v st.objs:=by obtain⟨-,h2⟩:=x4i h;obtain⟨u,n,hr,hv⟩:=h2 _ _ _ _ us hl hV;exact⟨.value u,u,E,{w with drawn:=n},by simp[hr],.inl rfl,hv _ _ _ _,Sim.of_heap (w:=w) rfl hS,.of_heap rfl,λ_ _ h=>.inl h⟩
theorem one_V{a:AV}{u:Value}(h:E.V w a u):∀(i:Nat) (b:AV) (v:Value),[a][i]?=some b->[u][i]?=some v->E.V w b v
 |0,_,_,ha,hv=>by simp at ha hv;subst ha hv;exact h
 |i+1,_,_,ha,_=>by simp at ha
theorem two_V{a b:AV}{u v:Value}(h:E.V w a u)(k:E.V w b v):∀(i:Nat) (c:AV) (z:Value),[a,b][i]?=some c->[u,v][i]?=some z->E.V w c z
 |0,_,_,ha,hv=>by simp at ha hv;subst ha hv;exact h
 |1,_,_,ha,hv=>by simp at ha hv;subst ha hv;exact k
 |i+2,_,_,ha,_=>by simp at ha
theorem ok_unOp{op:UnOp}{t:TypeId}{x:Operand}(hS:Sim E w st)(hsl:∀x:Operand,E.V w (ev sl x) (ρ x))(ho:o.op=.unOp op t x)(h:qH P id0 o sl st.objs=some (v,objs')):Ok P E w st id0 (execOp ρ o) v objs':=by
 simp only[qH,ho,xc5,xc3]at h;obtain⟨r,hr,rfl,rfl⟩:=h;unfold sUn at hr;split at hr
 .rename_i r' h0;cases hr;unfold un0 at h0;split at h0
  .rename_i a ha;have e:=uJ (hsl x) ha;simp only[xc5]at h0;obtain⟨u,hu,rfl⟩:=h0;have:=Ok.pure (w:=w) (id0:=id0) hS hu;simpa[execOp,ho,e]using this
  .cases h0
 .have:=Ok.abs (id0:=id0) (us:=[ρ x]) hS hr rfl (one_V (hsl x));simpa[execOp,ho,unS]using this
theorem x87{x:Operand}{i:Nat}(hS:Sim E w st)(hsl:∀x:Operand,E.V w (ev sl x) (ρ x))(ho:o.op=.extract x i)(h:qH P id0 o sl st.objs=some (v,objs')):Ok P E w st id0 (execOp ρ o) v objs':=by
 simp only[qH,ho]at h;split at h
 .rename_i vs hx;simp only[xc5,xc3]at h;obtain⟨a,ha,rfl,rfl⟩:=h;have hV:=hsl x;rw[hx]at hV;obtain⟨us,hu,hl,hp⟩:=V_tup hV;obtain⟨u,hu1,hu2⟩:=hp i a ha;exact .quiet (u:=u) hS (by simp[execOp,ho,hu,Instr.extract,hu1]) hu2 rfl
 .cases h
theorem ok_binOp{op:BinOp}{t yt:TypeId}{x y:Operand}(hS:Sim E w st)(hsl:∀x:Operand,E.V w (ev sl x) (ρ x))(ho:o.op=.binOp op t x y yt)(h:qH P id0 o sl st.objs=some (v,objs')):Ok P E w st id0 (execOp ρ o) v objs':=by
 simp only[qH,ho,xc5,xc3]at h;obtain⟨r,hr,rfl,rfl⟩:=h;unfold qT at hr;split at hr;rotate_left
 .have:=Ok.abs (id0:=id0) (us:=[ρ x,ρ y]) hS hr rfl (two_V (hsl x) (hsl y));simpa[execOp,ho,binS]using this
 rename_i r' h0;cases hr;unfold y4 at h0;split at h0
 .rename_i a b ha hb;have e1:=uJ (hsl x) ha;have e2:=uJ (hsl y) hb;simp only[xc5]at h0;obtain⟨u,hu,rfl⟩:=h0;have:=Ok.pure (w:=w) (id0:=id0) hS hu;simpa[execOp,ho,e1,e2]using this
 .rename_i hx hy;have e2:=uJ (hsl y) hy;have key:∀(a:Addr) (n cap:Nat) (el:TypeId),ρ x=.slice (some a) n cap->P.underlying t=some (.slice el)->((op=.eql/\r=.sc (.bool false))\/(op=.neq/\r=.sc (.bool true)))->Ok P E w st id0 (execOp ρ o) r st.objs:=by
   intro a n cap el hx hu hop;rcases hop with ⟨rfl,rfl⟩|⟨rfl,rfl⟩
   .refine .quiet (u:=.bool false) hS ?_ (.sc _) rfl;simp[execOp,ho,hx,e2,eqGuard,Lib.run_eql_slice_nil w t el (some a) n cap 0 0 hu]
   .refine .quiet (u:=.bool true) hS ?_ (.sc _) rfl;simp[execOp,ho,hx,e2,eqGuard,run_neq_slice_nil_any w t el (some a) n cap 0 0 hu]
  split at h0
  .rename_i el cs n b hu hxx;have hV:=hsl x;rw[hxx]at hV;obtain⟨a,cap,e,_⟩:=xN hV;refine key a _ cap el e hu ?_<;>(split at h0<;>simp_all)
  .rename_i el id ver off n z b hu hxx;have hV:=hsl x;rw[hxx]at hV;obtain⟨blk,base,len,a,cap,_,e,_⟩:=uL hV;refine key a _ cap el e hu ?_<;>(split at h0<;>simp_all)
  .cases h0
 .cases h0
theorem n6{t:TypeId}{cs:List AV}(h:zeroCells P t=some cs):∃z:Value,(∀w,(zeroValue t).run P w=.ok z w)/\cs=z.cells.toList.map .sc/\∀c∈z.cells.toList,c.oneCell'=true:=by
 unfold zeroCells at h;split at h
 .rename_i i hi;split at h
  .rename_i z hz;split at h
   .rename_i hone;cases h;refine⟨z,λw=>?_,rfl,xc8.1 hone⟩;simp[zeroValue,y7 hi,hz]
   .cases h
  .cases h
 .cases h
theorem scmap_row{l:List Value}(h1:∀c∈l,c.oneCell'=true):∀(i:Nat) (a:AV),(l.map AV.sc)[i]?=some a->∃v,l.toArray[i]?=some v/\E.V w a v/\v.oneCell'=true:=by intro i a ha;obtain⟨u,hu,hV⟩:=N5 (F:=E.F) (w:=w) (η:=E.η) (ζ:=E.ζ.1) ha;exact⟨u,by simpa using hu,hV,h1 u (xd1 hu)⟩
theorem B9{s:Sem Next}{t:TypeId}{arr:Array Value}{cs:List AV}(hS:Sim E w st)(hid:id0.1<st.next)(hf:∀ver,E.η id0 ver=none){w1:World}(hw1:w1.heap=w.heap){u:Value}(hr:s.run P w=.ok (.value u) {w1 with heap:=w1.heap.push (.cells arr t (0,0))})(hlen:cs.length<=arr.size)(hc:∀(i:Nat) (a:AV),cs[i]?=some a->∃v,arr[i]?=some v/\E.V w a v/\v.oneCell'=true)(hV:∀(E':Env) (w':World),E'.η id0 0=some (w.heap.size,0,cs.length)->w'.shape? w.heap.size=some (t,arr.size)->E'.V w' v u)(ho:objs'=qM st.objs id0 (some (.row cs 0 false)))(hos1:w1.os=w.os:=by first|assumption|rfl)(hout1:w1.output=w.output:=by first|assumption|rfl):Ok P E w st id0 s v objs':=by
 subst ho;obtain⟨E',h1,h2,h3,h4,h5⟩:=hS.fresh (w':={w1 with heap:=w1.heap.push (.cells arr t (0,0))}) (t:=t) hid hf (by simp[hw1]) hlen hc;refine⟨_,u,E',_,hr,.inl rfl,hV E' _ h3 (by simp[World.shape?,hw1]),h1,h2,λi ver hne=>?_⟩;by_cases hi:i=id0
 .exact .inr (.inl hi)
 .rw[h4 _ _ hi]at hne;exact .inl hne
theorem x88{t:TypeId}{cs:List AV}{e:TypeId}(h:G7 P t cs=some e):cs=[.sc (.pointer none),.sc (.slice none 0 0)]:=by
 unfold G7 at h;split at h
 .rfl
 .cases h
theorem ok_newBld{s:Sem Next}{t e:TypeId}{arr:Array Value}(hS:Sim E w st)(hid:id0.1<st.next)(hf:∀ver,E.η id0 ver=none)(ha:arr=#[.pointer none,.slice none 0 0])(hr:s.run P w=.ok (.value (.pointer (some ⟨w.heap.size,0,none⟩))) {w with heap:=w.heap.push (.cells arr t (0,0))}) :
 Ok P E w st id0 s (.ptr id0 0 0) (qM st.objs id0 (some (.bld t e []))):=by
 subst ha;let w':World:={w with heap:=w.heap.push (.cells #[.pointer none,.slice none 0 0] t (0,0))}
 let E':Env:={E with η:=λi v=>if i=id0/\v=0 then some (w.heap.size,0,2)else E.η i v,O:=λb=>if b=w.heap.size then some id0 else E.O b}
 have hsame:∀b,b<w.heap.size->w'.heap[b]?=w.heap[b]?:=λb hb=>by show(w.heap.push _)[b]?=_;rw[xe3 hb,xcl hb]
 have hη:∀i v x,E.η i v=some x->E'.η i v=some x:=λi v x h=>by
  show(if _ then _ else _)=_;split
  .rename_i e;rw[e.1,hf]at h;cases h
  .exact h
 have h0:E'.η id0 0=some (w.heap.size,0,2):=(by show(if _ then _ else _)=_;rw[xc2 ⟨rfl,rfl⟩]);obtain⟨h1,h2⟩:=hS.turn (E':=E') (w':=w') (id:=id0) (o:=.bld t e []) (.of_same hsame) hid hη
  (λi v hne=>by show(if _ then _ else _)=_;rw[xc1 (λe=>hne e.1)]) rfl rfl rfl
  (λb hb=>by show(if _ then _ else _)=_;rw[xc1 (by omega)])
  (λb i hb hO=>by
   replace hO:(if b=w.heap.size then some id0 else E.O b)=some i:=hO
   split at hO
   .rename_i e;cases hO;exact⟨rfl,by show _<(w.heap.push _).size;simp;omega⟩
   .have:=(hS.own b i hO).2.2;omega)
  (by show _<=(w.heap.push _).size;simp) (λb hb=>by simp[World.shape?,hsame b hb]) (λb hb _=>hsame b hb)
  ⟨w.heap.size,.pointer none,.slice none 0 0,h0,λv' hv'=>by
   show(if _ then _ else _)=_
   rw[xc1 (by rintro⟨_,e⟩;omega)];exact hf v',by show(w.heap.push _)[_]?=_;simp,.inl rfl,⟨World.ownsRow_nil _ _ _ _,λ_=>rfl⟩,by simp[Value.ownBlock],by show(if _ then _ else _)=_;rw[xc2 rfl],λg hg=>by cases hg⟩
 refine⟨_,.pointer (some ⟨w.heap.size,0,none⟩),E',w',hr,.inl rfl,?_,h1,h2,λi ver hne=>?_⟩
 .exact V.ptr (F:=E'.F) (w:=w') (η:=E'.η) (ζ:=E'.ζ.1) id0 0 0 w.heap.size 0 _ h0
 .by_cases hi:i=id0
  .exact .inr (.inl hi)
  .left;intro e;apply hne;show(if _ then _ else _)=_;rw[xc1 (λh=>hi h.1)];exact e
theorem ok_alloc{t:TypeId}(hS:Sim E w st)(hid:id0.1<st.next)(hf:∀ver,E.η id0 ver=none)(ho:o.op=.alloc t)(h:qH P id0 o sl st.objs=some (v,objs')):Ok P E w st id0 (execOp ρ o) v objs':=by
 simp only[qH,ho]at h;split at h
 .rename_i cs hz;obtain⟨z,hz1,rfl,hz3⟩:=n6 hz;split at h
  .rename_i e hbl;simp only[xc4,xc3]at h;obtain⟨rfl,rfl⟩:=h;have hzc:=x88 hbl;have hz4:z.cells=#[.pointer none,.slice none 0 0]:=by
    apply Array.ext';match hzl:z.cells.toList,hzc with
    |[a,b],hzc=>simp at hzc;rw[hzc.1,hzc.2]
   refine ok_newBld hS hid hf (t:=t) (e:=e) (arr:=z.cells) hz4 ?_;simp[execOp,ho,Instr.alloc,hz1,newVar,newRow]
  simp only[xc4,xc3]at h;obtain⟨rfl,rfl⟩:=h;refine B9 (t:=t) (arr:=z.cells) (cs:=z.cells.toList.map .sc) hS hid hf (w1:=w) rfl (u:=.pointer (some ⟨w.heap.size,0,none⟩)) ?_ (by simp) (λi a ha=>?_) (λE' w' h1 h2=>?_) rfl
  .simp[execOp,ho,Instr.alloc,hz1,newVar,newRow]
  .have:=scmap_row (E:=E) (w:=w) hz3 i a ha;simpa using this
  .have:=V.ptr (F:=E'.F) (w:=w') (η:=E'.η) (ζ:=E'.ζ.1) id0 0 0 w.heap.size 0 _ h1;exact this
 .cases h
theorem ok_box{t:TypeId}{x:Operand}(hS:Sim E w st)(hsl:∀x:Operand,E.V w (ev sl x) (ρ x))(hid:id0.1<st.next)(hf:∀ver,E.η id0 ver=none)(ho:o.op=.box t x)(h:qH P id0 o sl st.objs=some (v,objs')):Ok P E w st id0 (execOp ρ o) v objs':=by
 simp only[qH,ho]at h;split at h
 .rename_i hone;simp only[xc4,xc3]at h;obtain⟨rfl,rfl⟩:=h;obtain⟨hl,hc⟩:=N6 (hsl x);refine B9 (t:=t) (arr:=(ρ x).cells) (cs:=(ev sl x).cells) hS hid hf (w1:=w) rfl (u:=.pointer (some ⟨w.heap.size,0,none⟩)) ?_ (by omega) (λi a ha=>?_) (λE' w' h1 h2=>?_) rfl
  .simp[execOp,ho,Instr.box,newVar,newRow]
  .obtain⟨u,hu,hV⟩:=hc i a ha;exact⟨u,hu,hV,V_one hV (xc8.1 hone a (xd1 ha))⟩
  .have:=V.ptr (F:=E'.F) (w:=w') (η:=E'.η) (ζ:=E'.ζ.1) id0 0 0 w.heap.size 0 _ h1;exact this
 .cases h
theorem ok_load{t:TypeId}{x:Operand}(hS:Sim E w st)(hsl:∀x:Operand,E.V w (ev sl x) (ρ x))(ho:o.op=.load t x)(h:qH P id0 o sl st.objs=some (v,objs')):Ok P E w st id0 (execOp ρ o) v objs':=by
 simp only[qH,ho]at h;split at h
 .rename_i g z ht;split at h
  .rename_i cs hx;split at h
   .cases h
   .rename_i hne;simp only[xc5,xc3]at h;obtain⟨r,hr,rfl,rfl⟩:=h;have hV:=hsl x;rw[hx]at hV;obtain⟨a,e,hL⟩:=H2 hV;have hspot:=(hL.2 (by intro h0;simp[h0]at hne)).2;obtain⟨u,hu,hV'⟩:=N7 (P:=P) (F:=E.F) (w:=w) (η:=eta0) (ζ:=[]) (b:=a.block) (o:=a.off) ht hr (λi b hb=>let⟨v,h1,h2,_⟩:=hL.1 i b hb;⟨v,h1,h2⟩);have ea:a=⟨a.block,a.off,none⟩:=(by cases a;simp at hspot;simp[hspot]);refine .quiet (u:=u) hS ?_ (V.mono (λ_ h=>h) (Ext.refl _ _) hV' (λ_ _ _ h=>by cases h) (λ_ _ h=>by simp at h)) rfl;rw[ea]at e;simp[execOp,ho,Instr.loadAt,e,Instr.sureAddr,hu]
  .rename_i id ver off hx;split at h
   .rename_i cs vv fr hob;split at h
    .rename_i hver;simp only[xc5,xc3]at h;obtain⟨r,hr,rfl,rfl⟩:=h;subst hver;have hV:=hsl x;rw[hx]at hV;obtain⟨blk,base,len,hη,e⟩:=xO hV;obtain⟨_,_,arr,tt,h3,h4,h5,_⟩:=zR hS hob hη
     obtain⟨u,hu,hV'⟩:=N7 (P:=P) (F:=E.F) (w:=w) (η:=E.η) (ζ:=E.ζ.1) (b:=blk) (o:=base+off) ht hr (λi b hb=>by
      rw[xdq]at hb
      obtain⟨v,h1,h2,_⟩:=h5 _ _ hb
      exact⟨v,by rw[B8 h3,xde];exact h1,h2⟩)
     exact .quiet (u:=u) hS (by simp[execOp,ho,Instr.loadAt,e,Instr.sureAddr,hu]) hV' rfl
    .cases h
   .cases h
  .cases h
 .cases h
theorem H3{cs vs:List AV}{off:Nat}(h:off+vs.length<=cs.length):(rK cs off vs).length=cs.length:=by simp[rK];omega
theorem x4l{cs vs:List AV}{off:Nat}(h:off+vs.length<=cs.length)(j:Nat):(rK cs off vs)[j]?=if off<=j/\j<off+vs.length then vs[j-off]? else cs[j]?:=by
 unfold rK;rw[xf2];have hl:(cs.take off).length=off:=(by simp;omega);rw[hl];split
 .rename_i hj;rw[xc1 (by omega),xe2,xc2 hj]
 .rename_i hj;rw[xf2];split
  .rename_i h2;rw[xc2 (by omega)]
  .rename_i h2;rw[xc1 (by omega),xdq];congr 1;omega
theorem H4{id:Id}{cs:List AV}{ver:Nat}{blk base len off:Nat}{vs:List Value}{as:List AV}(hS:Sim E w st)(hid:id.1<st.next)(hob:st.objs id=some (.row cs ver false))(hη:E.η id ver=some (blk,base,len))(hl:vs.length=as.length)(hoff:off+as.length<=cs.length)(hV:∀(i:Nat) (a:AV),as[i]?=some a->∃v,vs[i]?=some v/\E.V w a v)(h1:∀v∈vs,v.oneCell'=true) :
 ∃w',(storeCells ⟨blk,base+off,none⟩ vs).run P w=.ok () w'/\Sim E w' {st with objs:=qM st.objs id (some (.row (rK cs off as) ver false))}/\Later E w E w':=by
 obtain⟨rfl,hlast,arr,t,h3,h4,h5,h6⟩:=zR hS hob hη;simp only[xcv,xck]at h6;have hb:blk<w.heap.size:=xM (uX h3);obtain⟨w',arr',hr,hh,hs,hc,hos,hout⟩:=N8 (P:=P) (b:=blk) (o:=base+off) (t:=t) vs 0 w arr h3 (by omega) h1;have hsame:∀b,b≠blk->w'.heap[b]?=w.heap[b]?:=λb hne=>by rw[hh,xdj (Ne.symm hne)]
 have hblk:w'.heap[blk]?=some (.cells arr' t (0,0)):=(by rw[hh];simp[hb]);have hshape:∀b,w'.shape? b=w.shape? b:=λb=>by
  by_cases hbb:b=blk
  .subst hbb;rw[uX hblk,uX h3,hs]
  .simp[World.shape?,hsame b hbb]
 have hsz:w'.heap.size=w.heap.size:=by rw[hh];simp
 have hext:Ext E.G w w':=⟨by omega,λb _=>hshape b,λb g _=>hsame b λe=>by
  subst e
  have:=hS.own b id h6
  rcases g with g|g
  .exact this.1 g
  .exact this.2.1 g,hos,hout⟩
 have hVV:∀{a v},E.V w a v->E.V w' a v:=λh=>V.mono (λ_ h=>h) (hext.weaken λ_ _ g=>.inl g) h (λ_ _ _ h=>h) (λ_ _ h=>h)
 refine⟨w',hr,?_⟩;exact hS.turn (E':=E) (.of_one h3 (by intro r e;cases e) hsame) hid (λ_ _ _ h=>h) (λ_ _ _=>rfl) rfl rfl rfl (λ_ _=>rfl) (λb i hb' hO=>by have:=(hS.own b i hO).2.2;omega) (by omega) (λb _=>hshape b)
  (λb _ hne=>hsame b λe=>by subst e;exact hne h6)
  ⟨blk,base,arr',t,by rw[H3 (by omega)];exact hη,hlast,hblk,by rw[H3 (by omega)];omega,λi a ha=>by
   rw[x4l (by omega)]at ha
   have hcc:=hc (base+i)
   simp only[xe9]at hcc
   by_cases hi:off<=i/\i<off+as.length
   .rw[xc2 hi]at ha
    obtain⟨v,hv,hV'⟩:=hV _ _ ha
    refine⟨v,?_,hVV hV',h1 v (xd1 hv)⟩
    rw[hcc,xc2 (by omega),show base+i-(base+off)=i-off from by omega];exact hv
   .rw[xc1 hi]at ha
    obtain⟨v,hv,hV',ho'⟩:=h5 _ _ ha
    refine⟨v,?_,hVV hV',ho'⟩
    rw[hcc,xc1 (by omega)];exact hv,by simpa using h6⟩
theorem ok_store{t:TypeId}{x y:Operand}(hS:Sim E w st)(hsl:∀x:Operand,E.V w (ev sl x) (ρ x))(ho:o.op=.store t x y)(h:qH P id0 o sl st.objs=some (v,objs')):Ok P E w st id0 (execOp ρ o) v objs':=by
 simp only[qH,ho]at h;split at h
 .rename_i g z ht;split at h
  .rename_i id ver off hx;split at h
   .rename_i cs vv hob;split at h
    .rename_i hcond;obtain⟨rfl,hlen,hoff,hone⟩:=hcond;simp only[xc4,xc3]at h;obtain⟨rfl,rfl⟩:=h;have hV:=hsl x;rw[hx]at hV;obtain⟨blk,base,len,hη,e⟩:=xO hV;obtain⟨hl,hc⟩:=N6 (hsl y);obtain⟨w',hr,hS',hL⟩:=H4 (P:=P) (vs:=(ρ y).cells.toList) (as:=(ev sl y).cells) (off:=off) hS (hS.dom _ _ _ hη) hob hη (by simpa using hl) (by omega)
      (λi a ha=>let⟨u,h1,h2⟩:=hc i a ha;⟨u,by simpa using h1,h2⟩)
      (λu hu=>by
       obtain⟨i,hi⟩:=xen.1 hu
       have hi2:i<(ev sl y).cells.length:=by have:=(xcw.1 hi).1;simp at this;omega
       obtain⟨u',h1,h2⟩:=hc i (ev sl y).cells[i] (by simp[hi2])
       have:u'=u:=by simp at hi;rw[hi]at h1;exact(xdn h1).symm
       subst this
       exact V_one h2 (xc8.1 hone _ (xcp hi2)))
     refine⟨.skip,undef,E,w',?_,.inr ⟨rfl,rfl⟩,.sc _,hS',hL,λ_ _ h=>.inl h⟩;have hz:=(H0 ht).2 w;have hsz:(ρ y).cells.size=z:=(by omega);simp[execOp,ho,Instr.storeAt,e,Instr.sureAddr,storeVar,hz,hsz,hr]
    .cases h
   .cases h
  .cases h
 .cases h
end
section
variable{P:Program}{E:Env}{w:World}{st:St}{id0:Id}{sl:Nat->AV}{ρ:Operand->Value}{o:Oper}{v:AV}{objs':Id->Option Ob}
theorem x4m{F:Nat->Prop}{η:Eta}{ζ:List Nat}{t:TypeId}{g:Bool}{z off:Nat}(ht:ty P t=some (g,z)){cs:List AV}{vs:Array Value}{r:AV}(hr:rd g z (cs.drop off)=some r)(hl:vs.size=cs.length)(hc:∀(i:Nat) (a:AV),cs[i]?=some a->∃v,vs[i]?=some v/\V F w η ζ a v):∃u,(part t vs off).run P w=.ok u w/\V F w η ζ r u:=by
 obtain⟨ha,hz⟩:=H0 ht;unfold rd at hr;cases g with
 |false=>simp only[xcv,xck]at hr;have:cs[off]?=some r:=(by rw[List.head?_drop]at hr;exact hr);obtain⟨u,hu,hV⟩:=hc off r this;exact⟨u,by simp[part,ha,hu],hV⟩
 |true=>
  simp only[xcm]at hr;split at hr
  .rename_i hle;cases hr;refine⟨.agg (vs.extract off (off+z)),by simp[part,ha,hz],.agg _ _ (by simp at hle ⊢;omega) λi a v ha' hv=>?_⟩;rw[Array.getElem?_extract]at hv;split at hv
   .rw[xe2]at ha';split at ha'
    .rw[xdq]at ha';obtain⟨u,hu,hV⟩:=hc _ _ ha';rw[hu]at hv;cases hv;exact hV
    .cases ha'
   .cases hv
  .cases hr
theorem ok_field{t:TypeId}{x:Operand}{f:Nat}(hS:Sim E w st)(hsl:∀x:Operand,E.V w (ev sl x) (ρ x))(ho:o.op=.field t x f)(h:qH P id0 o sl st.objs=some (v,objs')):Ok P E w st id0 (execOp ρ o) v objs':=by
 simp only[qH,ho]at h;split at h
 .rename_i fs hu;split at h
  .rename_i fd hfd;split at h
   .rename_i g z cs ht hx;simp only[xc5,xc3]at h;obtain⟨r,hr,rfl,rfl⟩:=h;have hV:=hsl x;rw[hx]at hV;obtain⟨vs,e,hl,hc⟩:=H1 hV;obtain⟨u,hu1,hu2⟩:=x4m (w:=w) ht hr hl hc;exact .quiet (u:=u) hS (by simp[execOp,ho,Instr.field,rC hu,hfd,e,asAgg,hu1]) hu2 rfl
   .cases h
  .cases h
 .cases h
theorem ok_index{t:TypeId}{x ix:Operand}(hS:Sim E w st)(hsl:∀x:Operand,E.V w (ev sl x) (ρ x))(ho:o.op=.index t x ix)(h:qH P id0 o sl st.objs=some (v,objs')):Ok P E w st id0 (execOp ρ o) v objs':=by
 simp only[qH,ho]at h;split at h
 .rename_i cs hx;split at h
  .rename_i k n el hk hu;split at h
   .rename_i g z ht;split at h
    .rename_i hb;simp only[xc5,xc3]at h;obtain⟨r,hr,rfl,rfl⟩:=h;have hV:=hsl x;rw[hx]at hV;obtain⟨vs,e,hl,hc⟩:=H1 hV;obtain⟨u,hu1,hu2⟩:=x4m (w:=w) ht hr hl hc;obtain⟨kd,ek⟩:=vV (hsl ix) hk;exact .quiet (u:=u) hS (by simp[execOp,ho,Instr.index,rC hu,e,ek,asIntOf,hb,(H0 ht).2,hu1]) hu2 rfl
    .cases h
   .cases h
  .cases h
 .rename_i vx hx;split at h
  .rename_i k hk;simp only[xc5,xc3]at h;obtain⟨r,hr,rfl,rfl⟩:=h;have hV:=hsl x;rw[hx]at hV;have e:=uK hV;have e2:=uJ (hsl ix) hk;have:=Ok.pure (w:=w) (id0:=id0) hS hr;simpa[execOp,ho,e,e2]using this
  .cases h
 .cases h
theorem N9{η:Eta}{ζ:List Nat}{F:Nat->Prop}{id:Id}{ver off k blk base len:Nat}(hη:η id ver=some (blk,base,len)):V F w η ζ (.ptr id ver (off+k)) (.pointer (some ((Addr.mk blk (base+off) none).add k))):=by rw[zQ,xde];exact .ptr id ver (off+k) blk base len hη
theorem x89{t:TypeId}{x:Operand}{f:Nat}(hS:Sim E w st)(hsl:∀x:Operand,E.V w (ev sl x) (ρ x))(ho:o.op=.fieldAddr t x f)(h:qH P id0 o sl st.objs=some (v,objs')):Ok P E w st id0 (execOp ρ o) v objs':=by
 simp only[qH,ho]at h;split at h
 .rename_i fs hu;split at h
  .rename_i fd hfd;split at h
   .rename_i i hi;split at h
    .cases h
    .rename_i hz;have hp:∀a,(fieldPlace a fd).run P w=.ok (a.add fd.offset) w:=λa=>by simp[fieldPlace,tV hi,hz]
     split at h
     .rename_i id ver off hx;simp only[xc4,xc3]at h;obtain⟨rfl,rfl⟩:=h;have hV:=hsl x;rw[hx]at hV;obtain⟨blk,base,len,hη,e⟩:=xO hV;exact .quiet hS (by simp[execOp,ho,Instr.fieldAt,rC hu,hfd,e,Instr.sureAddr,hp]) (N9 hη) rfl
     .rename_i cs hx;simp only[xc4,xc3]at h;obtain⟨rfl,rfl⟩:=h;have hV:=hsl x;rw[hx]at hV;obtain⟨a,e,hL⟩:=H2 hV;exact .quiet hS (by simp[execOp,ho,Instr.fieldAt,rC hu,hfd,e,Instr.sureAddr,hp]) (hL.drop _).plit rfl
     .cases h
   .cases h
  .cases h
 .cases h
theorem ok_toArr{t:TypeId}{x:Operand}(hS:Sim E w st)(hsl:∀x:Operand,E.V w (ev sl x) (ρ x))(ho:o.op=.sliceToArrayPointer t x)(h:qH P id0 o sl st.objs=some (v,objs')):Ok P E w st id0 (execOp ρ o) v objs':=by
 simp only[qH,ho]at h;split at h
 .rename_i n el hu;split at h
  .rename_i cs q b hx;split at h
   .rename_i hb;simp only[xc4,xc3]at h;obtain⟨rfl,rfl⟩:=h;have hV:=hsl x;rw[hx]at hV;obtain⟨a,cap,e,hL,_⟩:=xN hV;have hb':¬q<n:=(by omega);exact .quiet hS (by simp[execOp,ho,Instr.arrayAt,rC hu,e,hb']) hL.plit rfl
   .cases h
  .rename_i id ver off q z b hx;split at h
   .rename_i hb;simp only[xc4,xc3]at h;obtain⟨rfl,rfl⟩:=h;have hV:=hsl x;rw[hx]at hV;obtain⟨blk,base,len,a,cap,hη,e,ha,hlen,hn,_⟩:=uL hV;have ea:a=⟨blk,base+off,none⟩:=by
     rcases ha with ha|ha
     .exact ha
     .omega
    subst ea;have hb':¬q<n:=(by omega);exact .quiet hS (by simp[execOp,ho,Instr.arrayAt,rC hu,e,hb']) (.ptr id ver off blk base len hη) rfl
   .cases h
  .cases h
 .cases h
theorem x8a{t:TypeId}{x ix:Operand}(hS:Sim E w st)(hsl:∀x:Operand,E.V w (ev sl x) (ρ x))(ho:o.op=.indexAddr t x ix)(h:qH P id0 o sl st.objs=some (v,objs')):Ok P E w st id0 (execOp ρ o) v objs':=by
 simp only[qH,ho]at h;split at h
 .rename_i k hk;obtain⟨kd,ek⟩:=vV (hsl ix) hk;split at h
  .rename_i el hu;split at h
   .rename_i i hi;split at h
    .rename_i cs n b hx;split at h
     .rename_i hb;simp only[xc4,xc3]at h;obtain⟨rfl,rfl⟩:=h;have hV:=hsl x;rw[hx]at hV;obtain⟨a,cap,e,hL,_⟩:=xN hV;exact .quiet hS (by simp[execOp,ho,Instr.indexAt,rC hu,e,ek,asIntOf,hb,tV hi]) (hL.drop _).plit rfl
     .cases h
    .rename_i id ver off n z b hx;split at h
     .rename_i hb;obtain⟨hb1,hb2,rfl⟩:=hb;simp only[xc4,xc3]at h;obtain⟨rfl,rfl⟩:=h;have hV:=hsl x;rw[hx]at hV;obtain⟨blk,base,len,a,cap,hη,e,ha,hlen,hn,_⟩:=uL hV;have ea:a=⟨blk,base+off,none⟩:=by
       rcases ha with ha|ha
       .exact ha
       .omega
      subst ea;exact .quiet hS (by simp[execOp,ho,Instr.indexAt,rC hu,e,ek,asIntOf,hb1,hb2,tV hi]) (N9 hη) rfl
     .cases h
    .cases h
   .cases h
  .rename_i n el hu;split at h
   .rename_i i hi;split at h
    .rename_i id ver off hx;split at h
     .rename_i hb;simp only[xc4,xc3]at h;obtain⟨rfl,rfl⟩:=h;have hV:=hsl x;rw[hx]at hV;obtain⟨blk,base,len,hη,e⟩:=xO hV;exact .quiet hS (by simp[execOp,ho,Instr.indexAt,Instr.sureAddr,rC hu,e,ek,asIntOf,hb,tV hi]) (N9 hη) rfl
     .cases h
    .rename_i cs hx;split at h
     .rename_i hb;simp only[xc4,xc3]at h;obtain⟨rfl,rfl⟩:=h;have hV:=hsl x;rw[hx]at hV;obtain⟨a,e,hL⟩:=H2 hV;exact .quiet hS (by simp[execOp,ho,Instr.indexAt,Instr.sureAddr,rC hu,e,ek,asIntOf,hb,tV hi]) (hL.drop _).plit rfl
     .cases h
    .cases h
   .cases h
  .cases h
 .cases h
theorem x8b{x:Operand}(hS:Sim E w st)(hsl:∀x:Operand,E.V w (ev sl x) (ρ x))(ho:o.op=.nilCheck x)(h:qH P id0 o sl st.objs=some (v,objs')):Ok P E w st id0 (execOp ρ o) v objs':=by
 simp only[qH,ho]at h;have hV:=hsl x;split at h
 .rename_i u hx;rw[hx]at hV;have e:=uK hV;split at h;all_goals first
   |(cases h;done)
   |(simp only[xc4,xc3]at h
     obtain⟨rfl,rfl⟩:=h
     refine .quiet (u:=u) hS ?_ (.sc _) rfl
     simp only[execOp,ho,e]
     cases u with
     |pointer a=>cases a<;>simp_all
     |nilIface=>simp_all
     |nilFunc=>simp_all
     |func _ _ _=>simp_all
     |_=>simp)
 .rename_i id ver off hx;simp only[xc4,xc3]at h;obtain⟨rfl,rfl⟩:=h;rw[hx]at hV;obtain⟨blk,base,len,hη,e⟩:=xO hV;exact .quiet hS (by simp[execOp,ho,e]) (.ptr id ver off blk base len hη) rfl
 .rename_i cs hx;simp only[xc4,xc3]at h;obtain⟨rfl,rfl⟩:=h;rw[hx]at hV;obtain⟨a,e,hL⟩:=H2 hV;exact .quiet hS (by simp[execOp,ho,e]) hL.plit rfl
 .rename_i f cs hx;simp only[xc4,xc3]at h;obtain⟨rfl,rfl⟩:=h;rw[hx]at hV;obtain⟨vs,e,_⟩:=l9 hV;refine .quiet (u:=ρ x) hS ?_ hV rfl;simp[execOp,ho,e]
 .rename_i l hx;simp only[xc4,xc3]at h;obtain⟨rfl,rfl⟩:=h;rw[hx]at hV;obtain⟨blk,_,e⟩:=V_yld hV;refine .quiet (u:=ρ x) hS ?_ hV rfl;simp[execOp,ho,e]
 .cases h
theorem x8c{fn:Fn}{first captured:Array Operand}(hS:Sim E w st)(hsl:∀x:Operand,E.V w (ev sl x) (ρ x))(ho:o.op=.makeFunc fn first captured)(h:qH P id0 o sl st.objs=some (v,objs')):Ok P E w st id0 (execOp ρ o) v objs':=by
 cases fn with
 |func f=>
  simp only[qH,ho]at h;split at h
  .rename_i hz;simp only[xc4,xc3]at h;obtain⟨rfl,rfl⟩:=h;have hf:first=#[]:=(by simpa using hz);refine .quiet (u:=.func (.func f) #[] (captured.map ρ)) hS (by simp[execOp,ho,Instr.makeFunc,hf]) (.clo _ _ _ (by simp) λi a v ha hv=>?_) rfl;simp at ha hv;obtain⟨x,hx,rfl⟩:=ha;obtain⟨y,hy,rfl⟩:=hv;rw[hx]at hy;cases hy;exact hsl x
  .cases h
 |_=>simp[qH,ho]at h
end
section
variable{P:Program}{E:Env}{w:World}{st:St}{id0:Id}{sl:Nat->AV}{ρ:Operand->Value}{o:Oper}{v:AV}{objs':Id->Option Ob}
def Side(F:Nat->Prop)(w:World)(η:Eta)(ζ:List Nat)(cs:List AV)(vs:Array Value):Prop:=
 vs.size=cs.length/\∀(i:Nat) (a:AV),cs[i]?=some a->∃v,vs[i]?=some v/\V F w η ζ a v
theorem x4n(off:Nat):∀(l:List Value) (n:Nat) (cells:Array Value),off+n+l.length<=cells.size ->
 ((l.zipIdx n).foldl (λcs (p:Value×Nat)=>cs.setIfInBounds (off+p.2) p.1) cells).size=cells.size /\
 ∀k,((l.zipIdx n).foldl (λcs (p:Value×Nat)=>cs.setIfInBounds (off+p.2) p.1) cells)[k]?=if off+n<=k/\k<off+n+l.length then l[k-(off+n)]? else cells[k]?
 |[],n,cells,_=>by refine⟨rfl,λk=>?_⟩;rw[xc1 (by simp only[xea];omega)];rfl
 |c::l,n,cells,h=>by
  simp only[xco]at h;obtain⟨h1,h2⟩:=x4n off l (n+1) (cells.setIfInBounds (off+n) c) (by rw[xfz];omega);refine⟨?_,λk=>?_⟩
  .simp only[List.zipIdx_cons,xeo];rw[h1];simp
  .simp only[List.zipIdx_cons,xeo,xco];rw[h2 k];by_cases hk:k=off+n
   .subst hk;rw[xc1 (by omega),xc2 (by omega)];simp[show off+n<cells.size from by omega]
   .by_cases hk2:off+(n+1)<=k/\k<off+(n+1)+l.length
    .rw[xc2 hk2,xc2 (by omega),show k-(off+n)=(k-(off+(n+1)))+1 from by omega];rfl
    .rw[xc1 hk2,xc1 (by omega),xdj (by omega)]
theorem H5{F:Nat->Prop}{η:Eta}{ζ:List Nat}{place place':Nat->Option (Nat×Nat)}(hp:∀i,place' i=place i):∀(as:List (Nat×AV)) (us:List (Nat×Value)) (cs:List AV) (vs:Array Value) (r:List AV),
 Side F w η ζ cs vs->us.length=as.length->(∀(k:Nat) (p:Nat×AV) (q:Nat×Value),as[k]?=some p->us[k]?=some q->q.1=p.1/\V F w η ζ p.2 q.2)->vY place cs as=some r ->
 ∃vs',Instr.fill place' vs us=some vs'/\Side F w η ζ r vs'
 |[],us,cs,vs,r,hS,hl,_,h=>by simp[vY]at h;subst h;have:us=[]:=(by simpa using hl);subst this;exact⟨vs,rfl,hS⟩
 |(i,a)::as,us,cs,vs,r,hS,hl,hV,h=>by
  cases us with
  |nil=>simp at hl
  |cons q us=>
   obtain⟨i',u⟩:=q;obtain⟨e,hu⟩:=hV 0 (i,a) (i',u) rfl rfl;simp only at e;subst e;simp only[vY]at h;split at h
   .rename_i off size hpl;split at h
    .rename_i hc;obtain⟨hc1,hc2⟩:=hc;obtain⟨hl2,hc3⟩:=N6 hu;simp only at hl2 hc3 hc1 hc2;have hvs:=hS.1;have hlen:off+a.cells.length<=cs.length:=(by omega);have hfold:(u.cells.zipIdx.foldl (λcs (c,j)=>cs.setIfInBounds (off+j) c) vs)=((u.cells.toList.zipIdx 0).foldl (λcs (p:Value×Nat)=>cs.setIfInBounds (off+p.2) p.1) vs):=(by rw[<-xg0,Array.toList_zipIdx]);obtain⟨g1,g2⟩:=x4n off u.cells.toList 0 vs (by rw[xdk];omega);obtain⟨vs',h1,h2⟩:=H5 hp as us (rK cs off a.cells) (r:=r) (vs:=(u.cells.toList.zipIdx 0).foldl (λcs (p:Value×Nat)=>cs.setIfInBounds (off+p.2) p.1) vs)
      ⟨by rw[g1,H3 hlen];exact hS.1,λk b hb=>by
       rw[x4l hlen]at hb
       rw[g2 k]
       simp only[xe9,xdk]
       by_cases hk:off<=k/\k<off+a.cells.length
       .rw[xc2 hk]at hb
        rw[xc2 (by omega)]
        obtain⟨x,hx,hV'⟩:=hc3 _ _ hb
        exact⟨x,by simpa using hx,hV'⟩
       .rw[xc1 hk]at hb
        rw[xc1 (by omega)]
        exact hS.2 k b hb⟩ (by simpa using hl) (λk p q hp' hq=>hV (k+1) p q hp' hq) h (F:=F) (η:=η) (ζ:=ζ)
     refine⟨vs',?_,h2⟩;have hsz:u.cells.size=size:=(by omega);simp only[Instr.fill,hp,hpl];rw[xc1 (by simp[hsz];omega),hfold];exact h1
    .cases h
   .cases h
theorem x4o{α β:Type}{f:α->Sem β}:∀(l:List α) (r:List β),(∀(i:Nat) (a:α),l[i]?=some a->∃b,r[i]?=some b/\(f a).run P w=.ok b w)->r.length=l.length->(l.mapM f).run P w=.ok r w
 |[],r,_,hl=>by have:r=[]:=(by simpa using hl);subst this;simp
 |a::l,r,h,hl=>by
  cases r with
  |nil=>simp at hl
  |cons b r=>
   obtain⟨b',hb,hr⟩:=h 0 a rfl;simp at hb;subst hb
   have:=x4o l r (λi a ha=>by
    obtain⟨c,hc,hcr⟩:=h (i+1) a ha
    exact⟨c,hc,hcr⟩) (by simpa using hl)
   simp[xcx,hr,this]
theorem x8d{α β:Type}{f:α->Sem β}(xs:Array α)(r:List β)(h:∀(i:Nat) (a:α),xs.toList[i]?=some a->∃b,r[i]?=some b/\(f a).run P w=.ok b w)(hl:r.length=xs.size):(xs.mapM f).run P w=.ok r.toArray w:=by rw[xgn];simp[x4o xs.toList r h (by simpa using hl)]
theorem zS{α β:Type}{f:α->Option β}:∀{l:List α} {r:List β},l.mapM f=some r->r.length=l.length/\∀(i:Nat) (a:α),l[i]?=some a->∃b,r[i]?=some b/\f a=some b
 |[],r,h=>by simp at h;subst h;exact⟨rfl,λi a ha=>by simp at ha⟩
 |a::l,r,h=>by
  simp only[xcx]at h;cases hf:f a with
  |none=>simp[hf]at h
  |some b=>
   cases hm:l.mapM f with
   |none=>simp[hf,hm]at h
   |some r'=>
    simp[hf,hm]at h;subst h;obtain⟨h1,h2⟩:=zS hm;refine⟨by simp[h1],λi a' ha=>?_⟩;cases i with
    |zero=>simp at ha;subst ha;exact⟨b,rfl,hf⟩
    |succ i=>simpa using h2 i a' (by simpa using ha)
theorem x4p{parts:Array (Nat×Operand)}(hsl:∀x:Operand,E.V w (ev sl x) (ρ x)):(parts.map λ(i,x)=>(i,ρ x)).toList.length=(parts.toList.map λ(i,x)=>(i,ev sl x)).length /\
 ∀(k:Nat) (p:Nat×AV) (q:Nat×Value),(parts.toList.map λ(i,x)=>(i,ev sl x))[k]?=some p->(parts.map λ(i,x)=>(i,ρ x)).toList[k]?=some q->q.1=p.1/\V E.F w E.η E.ζ.1 p.2 q.2:=by
 refine⟨by simp,λk p q hp hq=>?_⟩;simp at hp hq;obtain⟨i,x,hx,rfl⟩:=hp;obtain⟨i',x',hx',rfl⟩:=hq;rw[hx]at hx';cases hx';exact⟨rfl,hsl x⟩
theorem x4q{F:Nat->Prop}{η:Eta}{ζ:List Nat}(z:Value):Side F w η ζ (z.cells.toList.map .sc) z.cells:=
 ⟨by simp,λi a ha=>by
  obtain⟨u,hu,hV⟩:=N5 (F:=F) (w:=w) (η:=η) (ζ:=ζ) ha
  exact⟨u,by simpa using hu,hV⟩⟩
theorem Side.agg{F:Nat->Prop}{η:Eta}{ζ:List Nat}{cs:List AV}{vs:Array Value}(h:Side F w η ζ cs vs):V F w η ζ (.agg cs) (.agg vs):=
 .agg cs vs h.1 λi a v ha hv=>by
  obtain⟨u,hu,hV⟩:=h.2 i a ha;rw[hu]at hv;cases hv;exact hV
theorem ok_build{t:TypeId}{parts:Array (Nat×Operand)}(hS:Sim E w st)(hsl:∀x:Operand,E.V w (ev sl x) (ρ x))(ho:o.op=.build t parts)(h:qH P id0 o sl st.objs=some (v,objs')):Ok P E w st id0 (execOp ρ o) v objs':=by
 simp only[qH,ho]at h;obtain⟨hp1,hp2⟩:=x4p (E:=E) (w:=w) (parts:=parts) hsl;split at h
 .rename_i fs z hu hz;split at h
  .rename_i pl hpl;simp only[xc5,xc3]at h;obtain⟨r,hr,rfl,rfl⟩:=h;obtain⟨zv,hz1,rfl,hz3⟩:=n6 hz;obtain⟨hm1,hm2⟩:=zS hpl;have hplaces:(fs.mapM λf=>do Pure.pure (f.offset,<-sizeOf f.type):Sem (Array (Nat×Nat))).run P w=.ok pl.toArray w:=
    x8d fs pl (λi f hf=>by
     obtain⟨b,hb,hfb⟩:=hm2 i f hf
     refine⟨b,hb,?_⟩
     simp only[xc5]at hfb
     obtain⟨inf,hinf,rfl⟩:=hfb
     simp[tV hinf]) (by simpa using hm1)
   obtain⟨vs',h1,h2⟩:=H5 (w:=w) (place:=(pl[·]?)) (place':=(pl.toArray[·]?)) (λi=>by simp) _ _ _ _ _ (x4q zv) hp1 hp2 hr;refine .quiet (u:=.agg vs') hS ?_ h2.agg rfl;simp only[execOp,ho,Instr.build,Sem.run_bind,hz1,Result.andThen_ok,rC hu];rw[hplaces];simp only[Result.andThen_ok,h1,Sem.run_pure]
  .cases h
 .rename_i n el z hu hz;split at h
  .rename_i i hi;simp only[xc5,xc3]at h;obtain⟨r,hr,rfl,rfl⟩:=h;obtain⟨zv,hz1,rfl,hz3⟩:=n6 hz;obtain⟨vs',h1,h2⟩:=H5 (w:=w) (place':=λk=>some (k*i.size,i.size)) (λi=>rfl) _ _ _ _ _ (x4q zv) hp1 hp2 hr;refine .quiet (u:=.agg vs') hS ?_ h2.agg rfl;simp only[execOp,ho,Instr.build,Sem.run_bind,hz1,Result.andThen_ok,rC hu,tV hi,h1,Sem.run_pure]
  .cases h
 .cases h
end
section
variable{P:Program}{E:Env}{w:World}{st:St}{id0:Id}{sl:Nat->AV}{ρ:Operand->Value}{o:Oper}{v:AV}{objs':Id->Option Ob}
theorem O0{F:Nat->Prop}{η:Eta}{ζ:List Nat}{a:AV}{u:Value}(h:V F w η ζ a u)(hc:clean1 a=true):V F w eta0 [] a u:=by
 cases h with
 |sc=>exact .sc _
 |slit cs n x a cap f h1 h2 h3 h4 h5 h6=>exact .slit cs n x a cap f h1 h2 h3 h4 h5 h6
 |plit cs a f h1 h2 h3 h4=>exact .plit cs a f h1 h2 h3 h4
 |un p _ h h1=>exact .un p _ h h1
 |clo f cs vs hl h=>
  refine .clo f cs vs hl λi a v ha hv=>?_
  have hV:=h i a v ha hv;have:=xc8.1 (by simpa[clean1]using hc) a (xd1 ha);cases hV with
  |sc v=>exact .sc v
  |slit cs n x a cap f h1 h2 h3 h4 h5 h6=>exact .slit cs n x a cap f h1 h2 h3 h4 h5 h6
  |_=>simp at this
 |_=>simp[clean1]at hc
theorem Sim.lit{w':World}{arr:Array Value}{t:TypeId}(hS:Sim E w st){fz:Nat×Nat}(hw:w'.heap=w.heap.push (.cells arr t fz))(hos:w'.os=w.os:=by first|assumption|rfl)(hout:w'.output=w.output:=by first|assumption|rfl) :
 let E':Env:={E with F:=λb=>E.F b\/b=w.heap.size}
 Sim E' w' st/\Later E w E' w':=by
 intro E';have hsame:∀b,b<w.heap.size->w'.heap[b]?=w.heap[b]?:=λb hb=>by rw[hw,xe3 hb,xcl hb]
 have hL:Later E w E' w':=by
  refine⟨λ_ _ _ h=>h,λb h=>.inl h,λb h=>?_,λb i h=>.inl h,λ_ h=>h,λ_ h=>.inl h,rfl,⟨by rw[hw];simp,λb hb=>by simp[World.shape?,hsame b hb],λb _ hb=>hsame b hb,hos,hout⟩,.of_same hsame,λ_ _ _ _ _ _ _=>rfl⟩;rcases h with h|h
  .exact .inl h
  .exact .inr (.inl (by omega))
 refine⟨⟨λi o ho=>?_,hS.dom,λb i h=>?_,λb h=>?_,hL.gl hS⟩,hL⟩
 .have hold:=hS.obj i o ho;cases o with
  |row cs ver fr=>
   obtain⟨blk,base,arr,t,h1,h2,h3,h4,h5,h6⟩:=hold;have hb:blk<w.heap.size:=xM (uX h3);refine⟨blk,base,arr,t,h1,h2,by rw[hsame _ hb];exact h3,h4,λk a ha=>?_,?_⟩
   .obtain⟨v,hv,hV,ho1⟩:=h5 k a ha;exact⟨v,hv,hV.later hL,ho1⟩
   .cases fr with
    |true=>simp at h6 ⊢;exact .inl h6
    |false=>simpa using h6
  |bld t e l=>obtain⟨blk,p,v,h1,h2,h3,h4,h5,h6,h7,h8⟩:=hold;exact⟨blk,p,v,h1,h2,by rw[hsame _ (hS.own _ _ h7).2.2];exact h3,h4,h5.keep λg hg=>hsame _ (hS.own _ _ (h8 g hg)).2.2,h6,h7,h8⟩
  |lp d=>obtain⟨blk,r,h1,h2,h3,h4,h5⟩:=hold;have hb:blk<w.heap.size:=(hS.own _ _ h4).2.2;exact⟨blk,r,h1,h2,by rw[hsame _ hb];exact h3,h4,h5⟩
  |map es=>obtain⟨blk,ents,clock,h1,h2,h3,h4,h5,h6⟩:=hold;have hb:blk<w.heap.size:=(hS.own _ _ h6).2.2;exact⟨blk,ents,clock,h1,h2,by rw[hsame _ hb];exact h3,h4,λk e m he hm=>⟨(h5 k e m he hm).1,(h5 k e m he hm).2.later hL⟩,h6⟩
 .have:=hS.own b i h;refine⟨λhf=>?_,this.2.1,by rw[hw];simp;omega⟩;rcases hf with hf|hf
  .exact this.1 hf
  .omega
 .rw[hw];simp only[Array.size_push];rcases h with (h|h)|h
  .have:=hS.fin b (.inl h);omega
  .omega
  .have:=hS.fin b (.inr h);omega
theorem H6{F:Nat->Prop}{η:Eta}{ζ:List Nat}(z:Array Value)(n:Nat)(hz:0<n->0<z.size)(h1:∀c∈z.toList,c.oneCell'=true) :
 Side F w η ζ (sF (z.toList.map .sc) n) ((Array.range n).map (z[· % z.size]!))/\∀c∈((Array.range n).map (z[· % z.size]!)).toList,c.oneCell'=true:=by
 refine⟨⟨by simp[sF],λi a ha=>?_⟩,λc hc=>?_⟩
 .simp only[sF,xeb,xc5]at ha;obtain⟨k,hk,rfl⟩:=ha;have hi:i<n:=(by have:=(xcw.1 hk).1;simpa using this);rw[List.getElem?_range hi]at hk
  .cases hk;have hm:i % z.size<z.size:=xe4 _ (hz (by omega));refine⟨z[i % z.size]!,by simp[hi],?_⟩;have:(z.toList.map AV.sc).getD (i % (z.toList.map AV.sc).length) (.sc undef)=.sc z[i % z.size]!:=(by simp[xcg,hm]);rw[this];exact .sc _
 .simp at hc;obtain⟨i,hi,rfl⟩:=hc;have hm:i % z.size<z.size:=xe4 _ (hz (by omega));rw[getElem!_pos z _ hm];exact h1 _ (by simp)
theorem x8e{t:TypeId}{len:Nat}{parts:Array (Nat×Operand)}(hS:Sim E w st)(hsl:∀x:Operand,E.V w (ev sl x) (ρ x))(hid:id0.1<st.next)(hf:∀ver,E.η id0 ver=none)(ho:o.op=.buildSlice t len parts)(h:qH P id0 o sl st.objs=some (v,objs')):Ok P E w st id0 (execOp ρ o) v objs':=by
 simp only[qH,ho]at h;obtain⟨hp1,hp2⟩:=x4p (E:=E) (w:=w) (parts:=parts) hsl;split at h
 .rename_i el hu;split at h
  .rename_i i z hi hz;split at h
   .rename_i hc;obtain⟨hc1,hc2⟩:=hc;obtain⟨zv,hz1,rfl,hz3⟩:=n6 hz;simp only[xep,xdk]at hc2;split at h
    .rename_i cs hcs;obtain⟨hzs,_⟩:=H6 (F:=E.F) (w:=w) (η:=E.η) (ζ:=E.ζ.1) zv.cells (len*i.size) (λh=>by rw[hc2];exact Nat.pos_of_ne_zero (by rintro h0;simp[h0]at h)) hz3;obtain⟨vs',h1,h2⟩:=H5 (w:=w) (place':=λk=>some (k*i.size,i.size)) (λi=>rfl) _ _ _ _ _ hzs hp1 hp2 hcs;have hrun:(execOp ρ o).run P w=.ok (.value (.slice (some ⟨w.heap.size,0,none⟩) len len)) {w with heap:=w.heap.push (.cells vs' el (0,0))}:=by
      simp only[execOp,ho,Instr.buildSlice,Sem.run_bind,rC hu,tV hi,Result.andThen_ok];rw[xc1 (by omega)];by_cases h0:len*i.size=0
      .simp only[h0,xcm,Sem.run_bind,Sem.run_pure,Result.andThen_ok]at h1 ⊢;have e:(Array.range 0).map (λx=>(zv.cells)[x % zv.cells.size]!)=(Array.range 0).map (λx=>(#[]:Array Value)[x % (#[]:Array Value).size]!):=(by simp);rw[e]at h1;simp only[h1,newRow,run_newObj,Sem.run_bind,Sem.run_pure,Result.andThen_ok]
      .simp only[h0,xck,hz1,h1,newRow,run_newObj,Sem.run_bind,Sem.run_pure,Result.andThen_ok]
     have hone:cs.all AV.one=true:=by
      cases hh:cs.all AV.one with
      |true=>rfl
      |false=>simp[hh]at h
     simp only[hone,xdt,xcv,xck]at h;have hcell:∀(i:Nat) (a:AV),cs[i]?=some a->∃v,vs'[i]?=some v/\E.V w a v/\v.oneCell'=true:=λk a ha=>by obtain⟨u,hu,hV⟩:=h2.2 k a ha;exact⟨u,hu,hV,V_one hV (xc8.1 hone a (xd1 ha))⟩
     split at h
     .rename_i hcl;simp only[xc4,xc3]at h;obtain⟨rfl,rfl⟩:=h;obtain⟨h3,h4⟩:=hS.lit (w':={w with heap:=w.heap.push (.cells vs' el (0,0))}) (arr:=vs') (t:=el) rfl;refine⟨_,_,_,_,hrun,.inl rfl,LitAt.slit ⟨λk a ha=>?_,λ_=>⟨.inr rfl,rfl⟩⟩ (xc7 _) (λ_=>rfl),h3,h4,λ_ _ h=>.inl h⟩;obtain⟨u,hu,hV,ho1⟩:=hcell k a ha;refine⟨u,?_,O0 (Env.V.later hV h4) (xc8.1 hcl a (xd1 ha)),ho1⟩;simp[World.cell?,hu]
     .simp only[xc4,xc3]at h;obtain⟨rfl,rfl⟩:=h;have hlen:cs.length=len*i.size:=by
       have:vs'.size=cs.length:=h2.1;have hfl:∀(as:List (Nat×AV)) (cs r:List AV),vY (λk=>some (k*i.size,i.size)) cs as=some r->r.length=cs.length:=by
        intro as;induction as with
        |nil=>intro cs r h;simp[vY]at h;rw[h]
        |cons p as ih=>
         intro cs r h;obtain⟨k,a⟩:=p;simp only[vY]at h;split at h
         .rename_i hcc;rw[ih _ _ h,H3 (by omega)]
         .cases h
       rw[hfl _ _ _ hcs];simp[sF]
      refine B9 (t:=el) (arr:=vs') (cs:=cs) hS hid hf (w1:=w) rfl hrun (by rw[h2.1];exact xc7 _) hcell (λE' w' h1 h2'=>?_) rfl;refine .sref id0 0 0 len i.size true w.heap.size 0 cs.length ⟨w.heap.size,0,none⟩ len h1 (.inl rfl) (by omega) (xc7 _) ⟨λ_=>by omega,λh=>by cases h⟩ ⟨el,vs'.size,h2',by rw[h2.1];omega⟩
    .cases h
   .cases h
  .cases h
 .cases h
theorem x8f{t:TypeId}{x y:Operand}(hS:Sim E w st)(hsl:∀x:Operand,E.V w (ev sl x) (ρ x))(hid:id0.1<st.next)(hf:∀ver,E.η id0 ver=none)(ho:o.op=.makeSlice t x y)(h:qH P id0 o sl st.objs=some (v,objs')):Ok P E w st id0 (execOp ρ o) v objs':=by
 simp only[qH,ho]at h;split at h
 .rename_i el hu;split at h
  .rename_i i z l c hi hz hl hc;split at h
   .rename_i hcc;obtain⟨c1,c2,c3,c4,c5⟩:=hcc;simp only[xc4,xc3]at h;obtain⟨rfl,rfl⟩:=h;obtain⟨zv,hz1,rfl,hz3⟩:=n6 hz;simp only[xep,xdk]at c5;obtain⟨k1,e1⟩:=vV (hsl x) hl;obtain⟨k2,e2⟩:=vV (hsl y) hc;have wl:IntKind.i64.wrap l=l:=IntWalk.i64_in _ (by omega);have wc:IntKind.i64.wrap c=c:=IntWalk.i64_in _ (by omega);obtain⟨hzs,hz4⟩:=H6 (F:=E.F) (w:=w) (η:=E.η) (ζ:=E.ζ.1) zv.cells (c.toNat*i.size) (λh=>by rw[c5];exact Nat.pos_of_ne_zero (by rintro h0;simp[h0]at h)) hz3;have hrun:(execOp ρ o).run P w=.ok (.value (.slice (some ⟨w.heap.size,0,none⟩) l.toNat c.toNat)) {w with heap:=w.heap.push (.cells ((Array.range (c.toNat*i.size)).map (zv.cells[· % zv.cells.size]!)) el (0,0))}:=by
     have t1:¬(c<0):=(by omega);have t2:¬((i.bytes:Int)*c > 2 ^ 48):=(by omega);have t3:¬(l<0):=(by omega);have t4:¬(l > c):=(by omega);simp only[execOp,ho,Instr.makeSlice,Sem.run_bind,rC hu,y7 hi,tV hi,Result.andThen_ok,e1,e2,asInt,asIntOf,Sem.run_pure,wl,wc,t1,t2,t3,t4,xd2,Bool.or_false,xcv,xck,run_askRoom];by_cases h0:c.toNat*i.size=0
     .have e:(Array.range 0).map (λx=>(zv.cells)[x % zv.cells.size]!)=(Array.range 0).map (λx=>(#[]:Array Value)[x % (#[]:Array Value).size]!):=(by simp);simp only[h0,xcm,e,newRow,run_newObj,Sem.run_bind,Sem.run_pure,Result.andThen_ok]
     .simp only[h0,xck,hz1,newRow,run_newObj,Sem.run_bind,Sem.run_pure,Result.andThen_ok]
    refine B9 (t:=el) (arr:=(Array.range (c.toNat*i.size)).map (zv.cells[· % zv.cells.size]!)) (cs:=sF (zv.cells.toList.map .sc) (c.toNat*i.size)) hS hid hf (w1:=w) rfl hrun (by rw[hzs.1];exact xc7 _) (λk a ha=>by
     obtain⟨u,hu,hV⟩:=hzs.2 k a ha
     exact⟨u,hu,hV,hz4 u (by simpa using xg1 hu)⟩) (λE' w' h1 h2'=>?_) rfl
    have hlz:(sF (zv.cells.toList.map .sc) (c.toNat*i.size)).length=c.toNat*i.size:=(by simp[sF]);have hle:l.toNat*i.size<=c.toNat*i.size:=xd8 i.size (by omega);refine .sref id0 0 0 l.toNat i.size true w.heap.size 0 _ ⟨w.heap.size,0,none⟩ c.toNat h1 (.inl rfl) (by rw[hlz];omega) (by omega) ⟨λ_=>by rw[hlz];omega,λh=>by cases h⟩ ⟨el,_,h2',by simp⟩
   .cases h
  .cases h
 .cases h
end
section
variable{P:Program}{E:Env}{w:World}{st:St}{id0:Id}{sl:Nat->AV}{ρ:Operand->Value}{o:Oper}{v:AV}{objs':Id->Option Ob}
theorem O1(hsl:∀x:Operand,E.V w (ev sl x) (ρ x)){x:Option Operand}{l:List Value}(h:sO (x.toList.map (ev sl))=some l):l[0]?=x.map ρ:=by
 cases x with
 |none=>simp[sO]at h;subst h;rfl
 |some x=>
  simp only[Option.toList_some,xcj,xcy,sO]at h;split at h
  .rename_i u us hu hus;simp at hus;subst hus;cases h;simp[uJ (hsl x) hu]
  .cases h
theorem zT{x:Value}{k:IntKind}{i:Int}{y:Nat}{c:BoundsCode}(hx:x=.int k i)(h0:0<=i)(h1:i<=y):(Instr.sliceBound x y c).run P w=.ok i.toNat w:=by subst hx;simp[Instr.sliceBound,asIntOf,h0,h1]
theorem O4(hsl:∀x:Operand,E.V w (ev sl x) (ρ x)){isSlice:Bool}{n cap:Nat}{lo hi:Option Operand}{l h:Int}(hl:asI (match lo with|some x=>ev sl x|none=>.sc (.int .i64 0))=some l)(hh:asI (match hi with|some x=>ev sl x|none=>.sc (.int .i64 n))=some h)(h0:0<=l)(h1:l<=h)(h2:h<=n)(h3:n<=cap) :
 (Instr.sliceBounds isSlice n cap (lo.map ρ) (hi.map ρ) none).run P w=.ok (l.toNat,h.toNat,cap) w:=by
 have hhi:∀c:BoundsCode,(match hi.map ρ,(none:Option Value)with
  |some v,some _=>Instr.sliceBound v cap .slice3B
  |some v,none=>Instr.sliceBound v cap c
  |none,none=>Pure.pure n
  |none,some _=>stuck "Slice: max without high" : Sem Nat).run P w=.ok h.toNat w:=by
  intro c
  cases hi with
  |none=>simp only[asI,xc4]at hh;subst hh;simp
  |some x=>
   obtain⟨k,e⟩:=vV (hsl x) hh
   simpa using zT (P:=P) (w:=w) (c:=c) e (by omega) (by omega)
 have hlo:∀c:BoundsCode,(match lo.map ρ with
  |some v=>Instr.sliceBound v h.toNat c
  |none=>Pure.pure 0:Sem Nat).run P w=.ok l.toNat w:=by
  intro c
  cases lo with
  |none=>simp only[asI,xc4]at hl;subst hl;simp
  |some x=>
   obtain⟨k,e⟩:=vV (hsl x) hl
   simpa using zT (P:=P) (w:=w) (c:=c) e (by omega) (by omega)
 cases hi with
 |none=>
  simp only[asI,xc4]at hh;subst hh;cases lo with
  |none=>simp only[asI,xc4]at hl;subst hl;simp[Instr.sliceBounds]
  |some y=>obtain⟨k2,e2⟩:=vV (hsl y) hl;have:=zT (P:=P) (w:=w) (c:=.sliceB) e2 h0 (y:=n) (by omega);simp[Instr.sliceBounds,this]
 |some x=>
  obtain⟨k,e⟩:=vV (hsl x) hh;have t1:=λc=>zT (P:=P) (w:=w) (c:=c) e (by omega) (y:=cap) (by omega)
  cases lo with
  |none=>simp only[asI,xc4]at hl;subst hl;simp[Instr.sliceBounds,t1]
  |some y=>obtain⟨k2,e2⟩:=vV (hsl y) hl;have t2:=zT (P:=P) (w:=w) (c:=.sliceB) e2 h0 (y:=h.toNat) (by omega);simp[Instr.sliceBounds,t1,t2]
theorem x4r{isSlice:Bool}{n cap:Nat}{lo:Option Operand}{hi mx:Operand}{l h m:Int}(hsl:∀x:Operand,E.V w (ev sl x) (ρ x))(hl:asI (match lo with|some x=>ev sl x|none=>.sc (.int .i64 0))=some l)(hh:asI (ev sl hi)=some h)(hm:asI (ev sl mx)=some m)(h0:0<=l)(h1:l<=h)(h2:h<=m)(h3:m<=cap) :
 (Instr.sliceBounds isSlice n cap (lo.map ρ) (some (ρ hi)) (some (ρ mx))).run P w=.ok (l.toNat,h.toNat,m.toNat) w:=by
 obtain⟨k,e⟩:=vV (hsl hi) hh;obtain⟨k1,e1⟩:=vV (hsl mx) hm;have t1:=λc=>zT (P:=P) (w:=w) (c:=c) e (by omega) (y:=m.toNat) (by omega)
 have t0:=λc=>zT (P:=P) (w:=w) (c:=c) e1 (by omega) (y:=cap) (by omega)
 cases lo with
 |none=>simp only[asI,xc4]at hl;subst hl;simp[Instr.sliceBounds,t1,t0]
 |some y=>
  obtain⟨k2,e2⟩:=vV (hsl y) hl;have t2:=λc=>zT (P:=P) (w:=w) (c:=c) e2 h0 (y:=h.toNat) (by omega)
  simp[Instr.sliceBounds,t1,t0,t2]
theorem ok_slice3{t:TypeId}{x hi mx:Operand}{lo:Option Operand}(hS:Sim E w st)(hsl:∀x:Operand,E.V w (ev sl x) (ρ x))(ho:o.op=.slice t x lo (some hi) (some mx))(h:qH P id0 o sl st.objs=some (v,objs')):Ok P E w st id0 (execOp ρ o) v objs':=by
 simp only[qH,ho]at h;split at h
 .rename_i u hu;split at h
  .rename_i ls hv mv hls hhs hms;simp only[xc5,xc3]at h;obtain⟨r,hr,rfl,rfl⟩:=h;rw[O1 hsl hls,<-uJ (hsl hi) hhs,<-uJ (hsl mx) hms]at hr;have e:=uJ (hsl x) hu;have:=Ok.pure (w:=w) (id0:=id0) hS hr;simpa[execOp,ho,e]using this
  .cases h
 .split at h
  .rename_i el hu;split at h
   .rename_i i l hv m hi' hl hh hm;split at h
    .rename_i cs n b hx;split at h
     .rename_i hc;obtain⟨c1,c2,c3,rfl,c4⟩:=hc;simp only[xc4,xc3]at h;obtain⟨rfl,rfl⟩:=h;have hV:=hsl x;rw[hx]at hV;obtain⟨a,cap,e,hL,hn,hxx⟩:=xN hV;have hb:=x4r (P:=P) (w:=w) (ρ:=ρ) hsl (isSlice:=true) (n:=n) (cap:=cap) hl hh hm c1 c2 (xf3 _) (by omega);refine .quiet (u:=.slice (if m.toNat=l.toNat then some a else(some a).map (·.add (l.toNat*i.size))) (m.toNat-l.toNat) (m.toNat-l.toNat)) hS ?_ ?_ rfl
      .simp[execOp,ho,Instr.sliceAt,Instr.slice,rC hu,e,hb,tV hi']
      .have en:(m-l).toNat=m.toNat-l.toNat:=(by omega);rw[en];split
       .rename_i hcl;have h0:m.toNat-l.toNat=0:=(by omega);rw[h0,xdu,xeq]at *
        exact LitAt.slit ⟨λi b hb=>by simp at hb,λh=>absurd rfl h⟩ (by omega) (λ_=>rfl)
       .exact LitAt.slit ((hL.drop _).take _) (by omega) (λ_=>rfl)
     .cases h
    .rename_i id ver off n z b hx;split at h
     .rename_i hc;obtain⟨c1,c2,c3,rfl,rfl⟩:=hc;simp only[xc4,xc3]at h;obtain⟨rfl,rfl⟩:=h;have hV:=hsl x;rw[hx]at hV;obtain⟨blk,base,len,a,cap,hη,e,ha,hlen,hn,hxx,tt,sz,hsh,hsz⟩:=uL hV;have hb:=x4r (P:=P) (w:=w) (ρ:=ρ) hsl (isSlice:=true) (n:=n) (cap:=cap) hl hh hm c1 c2 (xf3 _) (by omega);refine .quiet (u:=.slice (if m.toNat=l.toNat then some a else(some a).map (·.add (l.toNat*i.size))) (m.toNat-l.toNat) (m.toNat-l.toNat)) hS ?_ ?_ rfl
      .simp[execOp,ho,Instr.sliceAt,Instr.slice,rC hu,e,hb,tV hi']
      .have en:(m-l).toNat=m.toNat-l.toNat:=(by omega);rw[en];have m1:l.toNat*i.size+(m.toNat-l.toNat)*i.size=m.toNat*i.size:=(by rw[<-xdr];congr 1;omega);have m3:m.toNat*i.size<=n*i.size:=xd8 _ (by omega);have m4:m.toNat*i.size<=cap*i.size:=xd8 _ (by omega);split
       .rename_i hcl;exact .sref id ver _ _ i.size false blk base len a _ hη (.inr (by omega)) (by omega) (by omega) ⟨λh=>(by cases h),λ_=>rfl⟩ ⟨tt,sz,hsh,by omega⟩
       .rename_i hcl;have ea:a=⟨blk,base+off,none⟩:=by
         rcases ha with ha|ha
         .exact ha
         .omega
        refine .sref id ver _ _ i.size false blk base len _ _ hη (.inl ?_) (by omega) (by omega) ⟨λh=>(by cases h),λ_=>rfl⟩ ⟨tt,sz,hsh,by omega⟩;rw[ea];show(Addr.mk blk (base+off) none).add _=_;rw[zQ,xde]
     .cases h
    .cases h
   .cases h
  .cases h
theorem x8g{t:TypeId}{x:Operand}(hS:Sim E w st)(hsl:∀x:Operand,E.V w (ev sl x) (ρ x))(ho:o.op=.makeInterface t x)(h:qH P id0 o sl st.objs=some (v,objs')):Ok P E w st id0 (execOp ρ o) v objs':=by
 simp only[qH,ho]at h;split at h
 .rename_i u hu;simp only[xc5,xc3]at h;obtain⟨r,hr,rfl,rfl⟩:=h;have e:=uJ (hsl x) hu;have:=Ok.pure (w:=w) (id0:=id0) hS hr;simpa[execOp,ho,e]using this
 .cases h
theorem ok_slice{t:TypeId}{x:Operand}{lo hi mx:Option Operand}(hS:Sim E w st)(hsl:∀x:Operand,E.V w (ev sl x) (ρ x))(ho:o.op=.slice t x lo hi mx)(h:qH P id0 o sl st.objs=some (v,objs')):Ok P E w st id0 (execOp ρ o) v objs':=by
 cases mx with
 |some m=>
  cases hi with
  |none=>simp[qH,ho]at h
  |some hi=>exact ok_slice3 hS hsl ho h
 |none=>
  simp only[qH,ho]at h;split at h
  .rename_i u hu;split at h
   .rename_i ls hs hls hhs;simp only[xc5,xc3]at h;obtain⟨r,hr,rfl,rfl⟩:=h;rw[O1 hsl hls,O1 hsl hhs]at hr;have e:=uJ (hsl x) hu;have:=Ok.pure (w:=w) (id0:=id0) hS hr;simpa[execOp,ho,e]using this
   .cases h
  .split at h
   .rename_i el hu;split at h
    .rename_i i l hi' hl;split at h
     .rename_i cs n b hx;split at h
      .rename_i hv hh;split at h
       .rename_i hc;obtain⟨c1,c2,c3,c4⟩:=hc;simp only[xc4,xc3]at h;obtain⟨rfl,rfl⟩:=h;have hV:=hsl x;rw[hx]at hV;obtain⟨a,cap,e,hL,hn,hxx⟩:=xN hV;have hb:=O4 (P:=P) (w:=w) (ρ:=ρ) hsl (isSlice:=true) (n:=n) (cap:=cap) hl hh c1 c2 c3 hn;refine .quiet (u:=.slice (if cap=l.toNat then some a else(some a).map (·.add (l.toNat*i.size))) (hv.toNat-l.toNat) (cap-l.toNat)) hS ?_ ?_ rfl
        .simp[execOp,ho,Instr.sliceAt,Instr.slice,rC hu,e,hb,tV hi']
        .have en:(hv-l).toNat=hv.toNat-l.toNat:=(by omega);rw[en];have hx2:(b&&decide (hv=(n:Int)))=true->cap-l.toNat=hv.toNat-l.toNat:=(by intro hb';simp only[xc6,xer]at hb';have:=hxx hb'.1;omega);split
         .rename_i hcl;have h0:hv.toNat-l.toNat=0:=(by omega);rw[h0,xdu,xeq]at *
          exact LitAt.slit ⟨λi b hb=>by simp at hb,λh=>absurd rfl h⟩ (by omega) (λh=>by have:=hx2 h;omega)
         .exact LitAt.slit ((hL.drop _).take _) (by omega) hx2
       .cases h
      .cases h
     .rename_i id ver off n z b hx;split at h
      .rename_i hv hh;split at h
       .rename_i hc;obtain⟨c1,c2,c3,rfl,c5⟩:=hc;simp only[xc4,xc3]at h;obtain⟨rfl,rfl⟩:=h;have hV:=hsl x;rw[hx]at hV;obtain⟨blk,base,len,a,cap,hη,e,ha,hlen,hn,hxx,tt,sz,hsh,hsz⟩:=uL hV;have hxy:b=false->cap-l.toNat=hv.toNat-l.toNat:=λh=>by
         have h1:=hxx.2 h;rcases c5 with c5|c5
         .rw[h]at c5;cases c5
         .omega
        have hb:=O4 (P:=P) (w:=w) (ρ:=ρ) hsl (isSlice:=true) (n:=n) (cap:=cap) hl hh c1 c2 c3 hn;refine .quiet (u:=.slice (if cap=l.toNat then some a else(some a).map (·.add (l.toNat*i.size))) (hv.toNat-l.toNat) (cap-l.toNat)) hS ?_ ?_ rfl
        .simp[execOp,ho,Instr.sliceAt,Instr.slice,rC hu,e,hb,tV hi']
        .have en:(hv-l).toNat=hv.toNat-l.toNat:=(by omega);rw[en];have m1:l.toNat*i.size+(hv.toNat-l.toNat)*i.size=hv.toNat*i.size:=(by rw[<-xdr];congr 1;omega);have m2:l.toNat*i.size+(cap-l.toNat)*i.size=cap*i.size:=(by rw[<-xdr];congr 1;omega);have m3:hv.toNat*i.size<=n*i.size:=xd8 _ (by omega);split
         .rename_i hcl;exact .sref id ver _ _ i.size b blk base len a _ hη (.inr (by omega)) (by omega) (by omega) ⟨λh=>by have:=hxx.1 h;omega,hxy⟩ ⟨tt,sz,hsh,by omega⟩
         .rename_i hcl;have ea:a=⟨blk,base+off,none⟩:=by
           rcases ha with ha|ha
           .exact ha
           .omega
          refine .sref id ver _ _ i.size b blk base len _ _ hη (.inl ?_) (by omega) (by omega) ⟨λh=>by have:=hxx.1 h;omega,hxy⟩ ⟨tt,sz,hsh,by omega⟩;rw[ea];show(Addr.mk blk (base+off) none).add _=_;rw[zQ,xde]
       .cases h
      .cases h
     .cases h
    .cases h
   .rename_i n el hu;split at h
    .rename_i i l hv hi' hl hh;split at h
     .rename_i id ver off hx;split at h
      .rename_i cs vv fr hob;split at h
       .rename_i hc;obtain⟨c1,c2,c3,rfl,c5⟩:=hc;simp only[xc4,xc3]at h;obtain⟨rfl,rfl⟩:=h;have hV:=hsl x;rw[hx]at hV;obtain⟨blk,base,len,hη,e⟩:=xO hV;obtain⟨rfl,_,arr,tt,h3,h4,_⟩:=zR hS hob hη;have hb:=O4 (P:=P) (w:=w) (ρ:=ρ) hsl (isSlice:=false) (n:=n) (cap:=n) hl hh c1 c2 (by omega) (xc7 _);refine .quiet (u:=.slice (some (if n=l.toNat then⟨blk,base+off,none⟩else(Addr.mk blk (base+off) none).add (l.toNat*i.size))) (hv.toNat-l.toNat) (n-l.toNat)) hS ?_ ?_ rfl
        .simp[execOp,ho,Instr.sliceAt,rC hu,e,Instr.sureAddr,hb,tV hi']
        .have en:(hv-l).toNat=hv.toNat-l.toNat:=(by omega);rw[en];have m1:l.toNat*i.size+(hv.toNat-l.toNat)*i.size=hv.toNat*i.size:=(by rw[<-xdr];congr 1;omega);have m2:l.toNat*i.size+(n-l.toNat)*i.size=n*i.size:=(by rw[<-xdr];congr 1;omega);have m3:hv.toNat*i.size<=n*i.size:=xd8 _ (by omega);split
         .exact .sref id _ _ _ i.size false blk base cs.length _ _ hη (.inr (by omega)) (by omega) (by omega) ⟨λh=>(by cases h),λ_=>by omega⟩ ⟨tt,arr.size,uX h3,by omega⟩
         .refine .sref id _ _ _ i.size false blk base cs.length _ _ hη (.inl ?_) (by omega) (by omega) ⟨λh=>(by cases h),λ_=>by omega⟩ ⟨tt,arr.size,uX h3,by omega⟩;rw[zQ,xde]
       .cases h
      .cases h
     .cases h
    .cases h
   .cases h
theorem x4s(hsl:∀x:Operand,E.V w (ev sl x) (ρ x)){xs:Array Operand}{l:List Value}(h:sO (xs.toList.map (ev sl))=some l):xs.map ρ=l.toArray:=by
 have:=x4e (F:=E.F) (w:=w) (η:=E.η) (ζ:=E.ζ.1) (l:=xs.toList.map (ev sl)) (vs:=xs.toList.map ρ) (us:=l) (by simp) (λi a v ha hv=>by
  simp at ha hv
  obtain⟨x,hx,rfl⟩:=ha
  obtain⟨y,hy,rfl⟩:=hv
  rw[hx]at hy;cases hy
  exact hsl x) h
 apply Array.ext';rw[Array.toList_map,this]
theorem yN{c:Call}{b:Builtin}(ho:o.op=.call c)(hc:c.callee=.builtin b):execOp ρ o=builtin b c.argTypes o.type (c.args.map fun | .const _=>true|_=>false) (c.args.map ρ):=by simp only[execOp,ho,resolve,hc,invoke,pure_bind];rfl
theorem ok_len{c:Call}(hS:Sim E w st)(hsl:∀x:Operand,E.V w (ev sl x) (ρ x))(ho:o.op=.call c)(hc:c.callee=.builtin .len)(h:qH P id0 o sl st.objs=some (v,objs')):Ok P E w st id0 (execOp ρ o) v objs':=by
 simp only[qH,ho,hc,rY]at h;split at h
 .rename_i cs n b ha;split at h
  .rename_i el hu;split at h
   .rename_i h1;simp only[xc4,xc3]at h;obtain⟨rfl,rfl⟩:=h;obtain⟨x,hx1,hx2⟩:∃x,c.args=#[x]/\ev sl x=.slit cs n b:=(by have hl:c.args.size=1:=(by have:=congrArg List.length ha;simpa using this);obtain⟨x,hx⟩:=xes.1 hl;exact⟨x,hx,by rw[hx]at ha;simpa using ha⟩);have hV:=hsl x;rw[hx2]at hV;obtain⟨a,cap,e,_⟩:=xN hV;refine .quiet (u:=.int .i64 n) hS ?_ (.sc _) rfl;rw[yN ho hc];obtain⟨t,ht⟩:=xes.1 h1;rw[ht]at hu ⊢;have hu':P.underlying t=some (.slice el):=hu;simp[builtin,Builtin.len_,hx1,rC hu',e,goInt]
   .cases h
  .cases h
 .rename_i id ver off n z b ha;split at h
  .rename_i el hu;split at h
   .rename_i h1;simp only[xc4,xc3]at h;obtain⟨rfl,rfl⟩:=h;obtain⟨x,hx1,hx2⟩:∃x,c.args=#[x]/\ev sl x=.sref id ver off n z b:=(by have hl:c.args.size=1:=(by have:=congrArg List.length ha;simpa using this);obtain⟨x,hx⟩:=xes.1 hl;exact⟨x,hx,by rw[hx]at ha;simpa using ha⟩);have hV:=hsl x;rw[hx2]at hV;obtain⟨_,_,_,a,cap,_,e,_⟩:=uL hV;refine .quiet (u:=.int .i64 n) hS ?_ (.sc _) rfl;rw[yN ho hc];obtain⟨t,ht⟩:=xes.1 h1;rw[ht]at hu ⊢;have hu':P.underlying t=some (.slice el):=hu;simp[builtin,Builtin.len_,hx1,rC hu',e,goInt]
   .cases h
  .cases h
 .rename_i id ha;split at h
  .rename_i es hob;split at h
   .rename_i kt et hu;split at h
    .rename_i h1;simp only[xc4,xc3]at h;obtain⟨rfl,rfl⟩:=h;obtain⟨x,hx1,hx2⟩:∃x,c.args=#[x]/\ev sl x=.mp id:=(by have hl:c.args.size=1:=(by have:=congrArg List.length ha;simpa using this);obtain⟨x,hx⟩:=xes.1 hl;exact⟨x,hx,by rw[hx]at ha;simpa using ha⟩);have hV:=hsl x;rw[hx2]at hV;obtain⟨blk,hη,e⟩:=V_mp hV;obtain⟨blk',ents,clock,g1,_,g3,⟨g4,_⟩,_,_⟩:=hS.obj _ _ hob;rw[hη]at g1;cases g1;refine .quiet (u:=.int .i64 es.length) hS ?_ (.sc _) rfl;rw[yN ho hc];obtain⟨t,ht⟩:=xes.1 h1;rw[ht]at hu ⊢;have hu':P.underlying t=some (.map kt et):=hu;have hg:(getObj blk).run P w=.ok (.map ents clock) w:=(by simp[getObj,Sem.run,g3,Bind.bind,Sem.bind,Pure.pure]);simp[builtin,Builtin.len_,hx1,rC hu',e,goInt,hg,g4]
    .cases h
   .cases h
  .cases h
 .split at h
  .rename_i vs hvs;simp only[xc5,xc3]at h;obtain⟨r,hr,rfl,rfl⟩:=h;have e:=x4s hsl hvs;have:=Ok.pure (w:=w) (id0:=id0) hS hr;rw[yN ho hc,e];exact this
  .cases h
theorem y8{c:Call}{b:Builtin}(hb:b=.cap\/b=.max\/b=.min\/b=.real\/b=.imag\/b=.complex)(hS:Sim E w st)(hsl:∀x:Operand,E.V w (ev sl x) (ρ x))(ho:o.op=.call c)(hc:c.callee=.builtin b)(h:qH P id0 o sl st.objs=some (v,objs')):Ok P E w st id0 (execOp ρ o) v objs':=by
 rcases hb with rfl|rfl|rfl|rfl|rfl|rfl;all_goals
  simp only[qH,ho,hc,rY,xc5,xc3]at h;obtain⟨r,hr,rfl,rfl⟩:=h;unfold uV at hr;split at hr
  .rename_i r' h0;cases hr;unfold bi0 at h0;split at h0
   .rename_i vs hvs;simp only[xc5]at h0;obtain⟨u,hu,rfl⟩:=h0;have e:=x4s hsl hvs;have:=Ok.pure (w:=w) (id0:=id0) hS hu;rw[yN ho hc,e];exact this
   .cases h0
  .have:=Ok.abs (id0:=id0) (us:=c.args.toList.map ρ) hS hr (by simp) (λi a u ha hu=>by
    simp only[xeb,xc5]at ha hu
    obtain⟨x,hx,rfl⟩:=ha
    obtain⟨y,hy,rfl⟩:=hu
    rw[hx]at hy;cases hy
    exact hsl x)
   rw[yN ho hc,show c.args.map ρ=(c.args.toList.map ρ).toArray by rw[<-Array.toList_map]];exact this
end
section
variable{P:Program}{E:Env}{w:World}{st:St}{id0:Id}{sl:Nat->AV}{ρ:Operand->Value}{o:Oper}{v:AV}{objs':Id->Option Ob}
def Row1(E:Env)(w:World)(cs:List AV)(vs:Array Value):Prop:=
 vs.size=cs.length/\∀(i:Nat) (a:AV),cs[i]?=some a->∃v,vs[i]?=some v/\E.V w a v/\v.oneCell'=true
theorem Row1.one{cs:List AV}{vs:Array Value}(h:Row1 E w cs vs):∀v∈vs.toList,v.oneCell'=true:=by intro v hv;obtain⟨i,hi⟩:=xen.1 hv;have hlt:i<cs.length:=(by rw[<-h.1];have:=(xcw.1 hi).1;simpa using this);obtain⟨u,hu,_,ho⟩:=h.2 i cs[i] (by simp[hlt]);have:vs[i]?=some v:=(by simpa using hi);rw[this]at hu;cases hu;exact ho
theorem Row1.append{cs cs':List AV}{vs vs':Array Value}(h:Row1 E w cs vs)(h':Row1 E w cs' vs'):Row1 E w (cs++cs') (vs++vs'):=by
 refine⟨by simp[h.1,h'.1],λi a ha=>?_⟩;rw[xf2]at ha;rw[xfi,h.1];split at ha
 .rename_i hi;rw[xc2 hi];exact h.2 i a ha
 .rename_i hi;rw[xc1 hi];exact h'.2 _ a ha
theorem O5{a:Addr}{n:Nat}{cs:List AV}(hl:cs.length=n)(hc:∀(i:Nat) (b:AV),cs[i]?=some b->∃v,w.cell? ⟨a.block,a.off+i,none⟩=some v/\E.V w b v/\v.oneCell'=true)(hs:0<n->a.spot=none){w1:World}(hw:w1.heap=w.heap):∃arr,(loadCells a n).run P w1=.ok arr w1/\Row1 E w cs arr:=by
 by_cases h0:n=0
 .subst h0;have:cs=[]:=(by simpa using hl);subst this;exact⟨#[],rfl,rfl,λi b hb=>by simp at hb⟩
 .have hsp:=hs (by omega);have ea:a=⟨a.block,a.off,none⟩:=(by cases a;simp at hsp;simp[hsp]);have hex:∀j:Nat,∃v:Value,∀b,cs[j]?=some b->w.cell? ⟨a.block,a.off+j,none⟩=some v/\E.V w b v/\v.oneCell'=true:=by
   intro j;cases hj:cs[j]? with
   |none=>exact⟨undef,λb hb=>by cases hb⟩
   |some b=>obtain⟨v,hv⟩:=hc j b hj;exact⟨v,λb' hb'=>by cases hb';exact hv⟩
  obtain⟨f,hf⟩:=Classical.axiomOfChoice hex;refine⟨Array.ofFn (n:=n) λk=>f k,?_,by simp[hl],λi b hb=>?_⟩
  .rw[ea]
   exact x4k (λj hj=>by
    have:=(hf j cs[j] (by simp[show j<cs.length from by omega])).1
    rw[<-this]
    exact N3 (by rw[hw]))
  .have hi:i<n:=(by rw[<-hl];exact(xcw.1 hb).1);exact⟨f i,by simp[hi],(hf i b hb).2⟩
theorem V_eta{F:Nat->Prop}{η:Eta}{ζ:List Nat}{a:AV}{u:Value}(h:V F w eta0 [] a u):V F w η ζ a u:=
 V.mono (λ_ h=>h) (Ext.refl _ _) h (λ_ _ _ h=>by cases h) (λ_ _ h=>by simp at h)
theorem C0(hS:Sim E w st){x:AV}{u:Value}(hV:E.V w x u){z m:Nat}{src:List AV}(h:elems st.objs z x=some (src,m)) :
 src.length=m*z/\(∀w',(Builtin.lenOf u).run P w'=.ok m w')/\∀(k:Nat) (w1:World),k<=m->w1.heap=w.heap->∃arr,(Builtin.firstCells z k u).run P w1=.ok arr w1/\Row1 E w (src.take (k*z)) arr:=by
 unfold elems at h;split at h
 .simp only[xc4,xc3]at h;obtain⟨rfl,rfl⟩:=h;have e:=uK hV;subst e;exact⟨by simp,λ_=>rfl,λk w1 hk _=>⟨#[],rfl,by simp,λi b hb=>by simp at hb⟩⟩
 .rename_i cs n b;split at h
  .rename_i hle;simp only[xc4,xc3]at h;obtain⟨rfl,rfl⟩:=h;obtain⟨a,cap,e,hL,_⟩:=xN hV;subst e;refine⟨by simp;omega,λ_=>rfl,λk w1 hk hw=>?_⟩;have hkz:k*z<=n*z:=xd8 z hk
   obtain⟨arr,h1,h2⟩:=O5 (P:=P) (E:=E) (w:=w) (a:=a) (n:=k*z) (cs:=(cs.take (n*z)).take (k*z)) (by simp;omega) (λi b hb=>by
    rw[xfj]at hb
    rw[xe2]at hb
    split at hb
    .obtain⟨v,h1,h2,h3⟩:=hL.1 i b hb
     exact⟨v,h1,V_eta h2,h3⟩
    .cases hb) (λh0=>(hL.2 (by intro h;simp[h]at hle;omega)).2) hw
   exact⟨arr,by simpa[Builtin.firstCells]using h1,h2⟩
  .cases h
 .rename_i id ver off n z' b;split at h
  .rename_i cs vv fr hob;split at h
   .rename_i hc;obtain⟨rfl,rfl,hle⟩:=hc;simp only[xc4,xc3]at h;obtain⟨rfl,rfl⟩:=h;obtain⟨blk,base,len,a,cap,hη,e,ha,hlen,hn,_⟩:=uL hV;subst e;obtain⟨rfl,_,arr,tt,h3,h4,h5,_⟩:=zR hS hob hη;refine⟨by simp;omega,λ_=>rfl,λk w1 hk hw=>?_⟩;have hkz:k*z'<=n*z':=xd8 z' hk;by_cases h0:k*z'=0
    .exact⟨#[],by simp[Builtin.firstCells,h0,loadCells,loadCellsFrom],by simp[h0],λi b hb=>by simp[h0]at hb⟩
    .have ea:a=⟨blk,base+off,none⟩:=by
      rcases ha with ha|ha
      .exact ha
      .have:k=0:=(by omega);simp[this]at h0
     obtain⟨arr',h1,h2⟩:=O5 (P:=P) (E:=E) (w:=w) (a:=a) (n:=k*z') (cs:=((cs.drop off).take (n*z')).take (k*z')) (by simp;omega) (λi b hb=>by
      rw[xfj,xe2]at hb
      split at hb
      .rw[xdq]at hb
       obtain⟨v,h1,h2,h3'⟩:=h5 _ b hb
       refine⟨v,?_,h2,h3'⟩
       rw[ea,B8 h3]
       show arr[base+off+i]?=_
       rw[xde];exact h1
      .cases hb) (λ_=>by rw[ea]) hw
     exact⟨arr',by simpa[Builtin.firstCells]using h1,h2⟩
   .cases h
  .cases h
 .cases h
theorem x4t(N:Nat):∀(r c:Nat),Builtin.growBy N r c<=max c (N+(N+768) / 4)
 |0,c=>by simp[Builtin.growBy];omega
 |r+1,c=>by
  unfold Builtin.growBy;split
  .omega
  .rename_i h;have:=x4t N r (c+(c+768) / 4);omega
theorem x8h(N c:Nat)(h:c<N):Builtin.nextslicecap N c<=2*N+1000:=by
 unfold Builtin.nextslicecap;split
 .omega
 .split
  .omega
  .have:=x4t N 4 c;omega
def vG(e:TypeId)(size:Nat)(zs:Bool)(base:Option Addr)(qJ sCap n:Nat)(x:Value)(app:Sem (Array Value)):Sem Value:=
 if qJ+n<=sCap then do
  let new <-app
  if let some a:=base then storeCells (a.add (qJ*size)) new.toList
  pure (.slice base (qJ+n) sCap)
 else do
  if((qJ+n:Nat):Int) > IntKind.i64.max/\(zs\/(<-typeInfo e).bytes=0)then runtimePanic (.error "growslice: len out of range")
  if Builtin.nextslicecap (qJ+n) sCap*(<-typeInfo e).bytes > 2 ^ 48 then(if zs then runtimePanic (.error "growslice: len out of range")else do
   if !(<-Builtin.mayShare size qJ n base x)then mark .noRoom
   unsupported (.resourceLimit "append: a slice or a string whose bytes no memory bears"))
  let newCap <-choose (.appendCap (qJ+n) sCap e)
  askRoom (newCap*(<-typeInfo e).bytes)
  let old <-Builtin.firstCells size qJ (.slice base qJ sCap)
  let new <-app
  let rest:=Builtin.zeroCells (<-zeroValue e).cells (newCap-(qJ+n))
  pure (.slice (some (<-newRow e (old++new++rest))) (qJ+n) newCap)
theorem x8i{t t' e ty:TypeId}{d:TypeDesc}{i:TypeInfo}{base:Option Addr}{qJ sCap m:Nat}{x:Value}(hu:P.underlying t=some (.slice e))(hu':P.underlying t'=some d)(hd:∀k,d≠.int k)(hi:P.info? e=some i)(hm:(Builtin.lenOf x).run P w=.ok m w) :
 (Builtin.append_ #[t,t'] ty #[.slice base qJ sCap,x]).run P w=(vG e i.size false base qJ sCap m x (Builtin.firstCells i.size m x)).run P w:=by
 have hd':(match d with | .int _=>true|_=>false)=false:=(by cases d<;>first|rfl|exact absurd rfl (hd _));unfold Builtin.append_ vG;simp only[List.getElem?_toArray,xf4,xf5,Sem.run_bind,rC hu,Result.andThen_ok,tV hi,rC hu',Sem.run_pure,xcv,xck,hm,xdf,xcm,false_or];split<;>rfl
end
section
variable{P:Program}{E:Env}{w:World}{st:St}{id0:Id}{sl:Nat->AV}{ρ:Operand->Value}{o:Oper}{v:AV}{objs':Id->Option Ob}
theorem x8j{t t' e ty:TypeId}{k k':IntKind}{i:TypeInfo}{base:Option Addr}{qJ sCap:Nat}{n:Int}(hu:P.underlying t=some (.slice e))(hu':P.underlying t'=some (.int k))(hi:P.info? e=some i)(h0:0<=n)(h1:n<=2 ^ 40)(h2:n*i.bytes<=2 ^ 47) :
 (Builtin.append_ #[t,t'] ty #[.slice base qJ sCap,.int k' n]).run P w =
  (vG e i.size true base qJ sCap n.toNat (.int k' n) (if n.toNat*i.size=0 then Pure.pure #[]else do Pure.pure (Builtin.zeroCells (<-zeroValue e).cells n.toNat))).run P w:=by
 have wl:IntKind.i64.wrap n=n:=IntWalk.i64_in _ (by omega);have t1:¬(n<0):=(by omega);have t2:¬(n*(i.bytes:Int) > 2 ^ 48):=(by omega);unfold Builtin.append_ vG;simp only[List.getElem?_toArray,xf4,xf5,Sem.run_bind,rC hu,Result.andThen_ok,tV hi,rC hu',Sem.run_pure,xcm,asInt,asIntOf,wl,t1,t2,xck,y7 hi,xdt,xcv,true_or,and_true];split<;>rfl
def Adds(P:Program)(E:Env)(w:World)(app:Sem (Array Value))(src:List AV):Prop:=
 ∀w1:World,w1.heap=w.heap->∃arr,app.run P w1=.ok arr w1/\Row1 E w src arr
theorem O7{e:TypeId}{size:Nat}{zs:Bool}{base:Option Addr}{qJ sCap m:Nat}{x:Value}{app:Sem (Array Value)}{arr:Array Value}(h:qJ+m<=sCap)(ha:app.run P w=.ok arr w) :
 (vG e size zs base qJ sCap m x app).run P w =
  (do
   if let some a:=base then storeCells (a.add (qJ*size)) arr.toList
   Pure.pure (Value.slice base (qJ+m) sCap):Sem Value).run P w:=by
 unfold vG;rw[xc2 h];simp only[Sem.run_bind,ha,Result.andThen_ok];all_goals(cases base<;>rfl)
theorem x4u{e:TypeId}{zs:Bool}{base:Option Addr}{qJ sCap m:Nat}{x:Value}{app:Sem (Array Value)}{src old:List AV}{i:TypeInfo}{zv:Value}(hi:P.info? e=some i)(hz:∀w,(zeroValue e).run P w=.ok zv w)(hzs:zv.cells.size=i.size)(h:sCap<qJ+m)(hr:qW (qJ+m) i.bytes)(ha:Adds P E w app src)(ho:∀w1:World,w1.heap=w.heap->∃arr,(Builtin.firstCells i.size qJ (.slice base qJ sCap)).run P w1=.ok arr w1/\Row1 E w old arr) :
 ∃(w1:World) (cap:Nat) (arr:Array Value),w1.heap=w.heap/\(vG e i.size zs base qJ sCap m x app).run P w=.ok (.slice (some ⟨w.heap.size,0,none⟩) (qJ+m) cap) {w1 with heap:=w1.heap.push (.cells arr e (0,0))} /\
  qJ+m<=cap/\arr.size=old.length+src.length+(cap-(qJ+m))*i.size/\(∀(k:Nat) (a:AV),(old++src)[k]?=some a->∃v,arr[k]?=some v/\E.V w a v/\v.oneCell'=true)/\w1.os=w.os/\w1.output=w.output:=by
 let w1:World:={w with drawn:=w.drawn+1}
 obtain⟨hr1,hr2⟩:=hr;have hcap:∃cap,qJ+m<=cap/\(choose (.appendCap (qJ+m) sCap e)).run P w=.ok cap w1:=(by refine⟨Question.cut (.appendCap (qJ+m) sCap e) (w.tape w.drawn (.appendCap (qJ+m) sCap e)),by simp[Question.cut],?_⟩;simp[Question.forced,w1]);obtain⟨cap,hc1,hc2⟩:=hcap;obtain⟨arr1,ho1,ho2⟩:=ho w1 rfl;obtain⟨arr2,ha1,ha2⟩:=ha w1 rfl;have hmax:¬(((qJ+m:Nat):Int) > IntKind.i64.max):=(by have:IntKind.i64.max=9223372036854775807:=(by rfl);rw[this];omega);have hcap2:Builtin.nextslicecap (qJ+m) sCap*i.bytes<=2 ^ 48:=(by have h1:=x8h (qJ+m) sCap h;have:=xd8 i.bytes h1;omega);have hng:¬(Builtin.nextslicecap (qJ+m) sCap*i.bytes > 2 ^ 48):=(by omega);refine⟨w1,cap,arr1++arr2++Builtin.zeroCells zv.cells (cap-(qJ+m)),rfl,?_,hc1,?_,λk a hk=>?_,rfl,rfl⟩
 .unfold vG;rw[xc1 (by omega)];simp only[Sem.run_bind,y7 hi,Result.andThen_ok,hmax,false_and,xck,hng,Sem.run_pure,hc2,run_askRoom,ho1,ha1,hz,newRow,run_newObj];rfl
 .simp only[Array.size_append,ho2.1,ha2.1,Builtin.zeroCells,Array.size_map,Array.size_range,hzs]
 .obtain⟨v,hv,hV⟩:=(ho2.append ha2).2 k a hk;refine⟨v,?_,hV⟩;rw[xfk]
  .exact hv
  .have:=(xf0.1 hv).1;exact this
theorem Sim.bump{E':Env}{w':World}{id:Id}{cs:List AV}{ver blk base len nb nbase:Nat}{new:List AV}{arr:Array Value}{t:TypeId}(hS:Sim E w st)(hid:id.1<st.next)(hob:st.objs id=some (.row cs ver false))(hη0:E.η id ver=some (blk,base,len))(hE':E'={E with η:=λj v=>if j=id/\v=ver+1 then some (nb,nbase,new.length)else E.η j v,O:=λb=>if b=nb then some id else E.O b})(hnb:(nb=blk/\w'.heap.size=w.heap.size)\/(nb=w.heap.size/\w'.heap.size=w.heap.size+1))(hsame:∀b,b<w.heap.size->b≠nb->w'.heap[b]?=w.heap[b]?)(hsh:∀b,b<w.heap.size->w'.shape? b=w.shape? b)(harr:w'.heap[nb]?=some (.cells arr t (0,0)))(hlen:nbase+new.length<=arr.size)(hc:∀(k:Nat) (a:AV),new[k]?=some a->∃v,arr[nbase+k]?=some v/\E.V w a v/\v.oneCell'=true)(hos:w'.os=w.os:=by first|assumption|rfl)(hout:w'.output=w.output:=by first|assumption|rfl) :
 Sim E' w' {st with objs:=qM st.objs id (some (.row new (ver+1) false))}/\Later E w E' w':=by
 obtain⟨rfl,hlast,arr0,t0,h3,h4,h5,h6⟩:=zR hS hob hη0;simp only[xcv,xck]at h6;have hblk:blk<w.heap.size:=xM (uX h3);have hη:∀i v x,E.η i v=some x->E'.η i v=some x:=λi v x h=>by
  rw[hE'];show(if _ then _ else _)=_;split
  .rename_i e;rw[e.1,e.2,hlast _ (xec _)]at h;cases h
  .exact h
 have hG:∀b,E.G b->b≠nb:=λb g e=>by
  subst e;rcases hnb with ⟨rfl,_⟩|⟨rfl,_⟩
  .have:=hS.own _ _ h6;rcases g with g|g
   .exact this.1 g
   .exact this.2.1 g
  .have:=hS.fin _ g;omega
 have hext:Ext E.G w w':=⟨by omega,hsh,λb g hb=>hsame b hb (hG b g),hos,hout⟩;have hF:E'.F=E.F:=(by rw[hE']);have hζ:E'.ζ=E.ζ:=(by rw[hE']);have hV:∀{a v},E.V w a v->E'.V w' a v:=λh=>V.mono (λ_ h=>by rw[hF];exact h) (hext.weaken λ_ _ g=>.inl g) h hη (λ_ _ h=>by rw[hζ];exact h)
 refine hS.turn (E':=E') (λb r e=>⟨r,by
  have hb:=l8 e
  rw[hsame b hb λx=>?_]
  .exact e
  .subst x
   rcases hnb with ⟨rfl,_⟩|⟨rfl,_⟩
   .rw[h3]at e;cases e
   .omega,rfl⟩) hid hη (λi v hne=>by rw[hE'];show(if _ then _ else _)=_;rw[xc1 (λe=>hne e.1)]) hF (by rw[hE']) hζ
  (λb hb=>by
   rw[hE']
   show(if _ then _ else _)=_
   split
   .rename_i e;subst e
    rcases hnb with ⟨rfl,_⟩|⟨rfl,_⟩
    .exact h6.symm
    .omega
   .rfl)
  (λb i hb hO=>by
   rw[hE']at hO
   replace hO:(if b=nb then some id else E.O b)=some i:=hO
   split at hO
   .rename_i e;cases hO;exact⟨rfl,by omega⟩
   .have:=(hS.own b i hO).2.2;omega)
  (by omega) hsh (λb hb hne=>hsame b hb λe=>by
   subst e
   rcases hnb with ⟨rfl,_⟩|⟨rfl,_⟩
   .exact hne h6
   .omega)
  ⟨nb,nbase,arr,t,by rw[hE'];show(if _ then _ else _)=_;rw[xc2 ⟨rfl,rfl⟩],λv' hv'=>by
   rw[hE']
   show(if _ then _ else _)=_
   rw[xc1 (by rintro⟨_,e⟩;omega)]
   exact hlast _ (by omega),harr,hlen,λk a ha=>by
   obtain⟨v,hv,hV',ho⟩:=hc k a ha
   exact⟨v,hv,hV hV',ho⟩,by
   simp only[xcv,xck]
   rw[hE']
   show(if _ then _ else _)=_
   rw[xc2 rfl]⟩
end
section
variable{P:Program}{E:Env}{w:World}{st:St}{id0:Id}{sl:Nat->AV}{ρ:Operand->Value}{o:Oper}{v:AV}{objs':Id->Option Ob}
theorem tail_ok{e:TypeId}{zs:Bool}{s:AV}{us:Value}{base:Option Addr}{qJ sCap m:Nat}{x:Value}{app:Sem (Array Value)}{src:List AV}{i:TypeInfo}{zv:Value}(hS:Sim E w st)(hid:id0.1<st.next)(hf:∀ver,E.η id0 ver=none)(hi:P.info? e=some i)(hz:∀w,(zeroValue e).run P w=.ok zv w)(hzs:zv.cells.size=i.size)(hpos:0<i.size)(ha:Adds P E w app src)(hsrc:src.length=m*i.size)(hus:us=.slice base qJ sCap)(h:(match s with
 | .sc (.slice none 0 0)=>if m=0 then some (s,st.objs)else if qW m i.bytes then some (AV.sref id0 0 0 m i.size true,qM st.objs id0 (some (.row src 0 false)))else none
 | .slit cs n true=>if n*i.size<=cs.length then(if m=0 then some (s,st.objs)else if qW (n+m) i.bytes then some (.sref id0 0 0 (n+m) i.size true,qM st.objs id0 (some (.row (cs.take (n*i.size)++src) 0 false)))else none)else none
 | .sref id ver off n z true=>match st.objs id with
   |some (.row cs v false)=>if v=ver/\z=i.size/\off+n*z<=cs.length/\qW (n+m) i.bytes then
    if m=0 then some (s,st.objs)
    else if off+(n+m)*z<=cs.length then some (.sref id ver off (n+m) z true,qM st.objs id (some (.row (rK cs (off+n*z) src) v false)))
    else some (.sref id (ver+1) 0 (n+m) z true,qM st.objs id (some (.row ((cs.drop off).take (n*z)++src) (v+1) false)))
    else none
   |_=>none
 | .sref id ver off n z false=>match st.objs id with
   |some (.row cs v _)=>if v=ver/\z=i.size/\off+n*z<=cs.length/\qW (n+m) i.bytes then
    if m=0 then some (s,st.objs)
    else some (.sref id0 0 0 (n+m) i.size true,qM st.objs id0 (some (.row ((cs.drop off).take (n*z)++src) 0 false)))
    else none
   |_=>none
 |_=>none:Option (AV×(Id->Option Ob)))=some (v,objs')) (hV:E.V w s us) :
 Ok P E w st id0 (do Pure.pure (.value (<-vG e i.size zs base qJ sCap m x app))) v objs':=by
 obtain⟨arr0,ha0,hr0⟩:=ha w rfl
 have fits:∀{w':World},qJ+m<=sCap->(vG e i.size zs base qJ sCap m x app).run P w=.ok (.slice base (qJ+m) sCap) w'->(do Pure.pure (Next.value (<-vG e i.size zs base qJ sCap m x app)):Sem Next).run P w=.ok (.value (.slice base (qJ+m) sCap)) w':=by
  intro w' _ h;simp[h]
 have zero:m=0->v=s->objs'=st.objs->qJ<=sCap->Ok P E w st id0 (do Pure.pure (.value (<-vG e i.size zs base qJ sCap m x app))) v objs':=by
  intro h0 e1 e2 hle
  subst e1
  have hemp:arr0.toList=[]:=by
   have h1:=hr0.1
   rw[hsrc,h0]at h1
   have h2:arr0.size=0:=by simpa using h1
   have:arr0=#[]:=Array.size_eq_zero_iff.1 h2
   simp[this]
  refine .quiet (u:=us) hS ?_ hV e2
  rw[fits (w':=w) (by omega)]
  .rw[hus,h0];rfl
  .rw[O7 (by omega) ha0,hemp]
   cases base<;>simp[storeCells]
 have fresh:∀(old:List AV),old.length=qJ*i.size->sCap<qJ+m->qW (qJ+m) i.bytes->(∀w1:World,w1.heap=w.heap->∃arr,(Builtin.firstCells i.size qJ (.slice base qJ sCap)).run P w1=.ok arr w1/\Row1 E w old arr) ->
  v=.sref id0 0 0 (qJ+m) i.size true->objs'=qM st.objs id0 (some (.row (old++src) 0 false))->Ok P E w st id0 (do Pure.pure (.value (<-vG e i.size zs base qJ sCap m x app))) v objs':=by
  intro old hold hcap hr hofc e1 e2
  obtain⟨w1,cap,arr,hw1,hrun,hc1,hsz,hcells,hos1,hout1⟩:=x4u (P:=P) (base:=base) (sCap:=sCap) (x:=x) (zs:=zs) hi hz hzs hcap hr ha hofc
  subst e1
  refine B9 (t:=e) (arr:=arr) (cs:=old++src) hS hid hf (w1:=w1) hw1 (u:=.slice (some ⟨w.heap.size,0,none⟩) (qJ+m) cap) (by simp[hrun]) (by rw[hsz];simp) hcells (λE' w' h1 h2=>?_) e2
  have hl:(old++src).length=(qJ+m)*i.size:=by simp[hold,hsrc,xdr]
  have hm:(qJ+m)*i.size+(cap-(qJ+m))*i.size=cap*i.size:=by rw[<-xdr];congr 1;omega
  refine .sref id0 0 0 (qJ+m) i.size true w.heap.size 0 _ ⟨w.heap.size,0,none⟩ cap h1 (.inl rfl) (by rw[hl];omega) hc1 ⟨λ_=>?_,λh=>by cases h⟩ ⟨e,arr.size,h2,?_⟩
  .rw[hl]
   have:=xd8 i.size hc1
   omega
  .rw[hsz,hold,hsrc,<-xdr];omega
 split at h
 .have e':=uK hV
  rw[hus]at e'
  cases e'
  split at h
  .rename_i h0
   simp only[xc4,xc3]at h
   exact zero h0 h.1.symm h.2.symm (xc7 _)
  .rename_i h0
   split at h
   .rename_i hr
    simp only[xc4,xc3]at h
    refine fresh [] (by simp) (by omega) (by simpa using hr) (λw1 _=>⟨#[],rfl,rfl,λi b hb=>by simp at hb⟩) (by simpa using h.1.symm) (by simpa using h.2.symm)
   .cases h
 .rename_i cs n
  obtain⟨a,cap,e',hL,hn,hx⟩:=xN hV
  rw[hus]at e'
  cases e'
  have hcn:=hx rfl
  split at h
  .rename_i hle
   split at h
   .rename_i h0
    simp only[xc4,xc3]at h
    exact zero h0 h.1.symm h.2.symm hn
   .rename_i h0
    split at h
    .rename_i hr
     simp only[xc4,xc3]at h
     refine fresh (cs.take (qJ*i.size)) (by simp;omega) (by omega) hr (λw1 hw1=>?_) h.1.symm h.2.symm
     obtain⟨arr,h1,h2⟩:=O5 (P:=P) (E:=E) (w:=w) (a:=a) (n:=qJ*i.size) (cs:=cs.take (qJ*i.size)) (by simp;omega) (λk b hb=>by
      obtain⟨v,h1,h2,h3⟩:=(hL.take _).1 k b hb
      exact⟨v,h1,V_eta h2,h3⟩) (λh0=>(hL.2 (by intro h;simp[h]at hle;omega)).2) hw1
     exact⟨arr,by simpa[Builtin.firstCells]using h1,h2⟩
    .cases h
  .cases h
 .rename_i id ver off n z
  obtain⟨blk,bs,len,a,cap,hη,e',hadr,hlen,hn,hx,tt,sz,hsh,hsz⟩:=uL hV
  rw[hus]at e'
  cases e'
  split at h
  .rename_i cs vv hob
   split at h
   .rename_i hc
    obtain⟨rfl,rfl,hle,hr⟩:=hc
    obtain⟨rfl,hlast,arr,t0,h3,h4,h5,h6⟩:=zR hS hob hη
    simp only[xcv,xck]at h6
    have hx':=hx.1 rfl
    split at h
    .rename_i h0
     simp only[xc4,xc3]at h
     exact zero h0 h.1.symm h.2.symm hn
    .rename_i h0
     have hmul:(qJ+m)*i.size=qJ*i.size+m*i.size:=xdr _ _ _
     have hmp:0<m*i.size:=Nat.mul_pos (by omega) hpos
     by_cases hfit:qJ+m<=sCap
     .have ea:a=⟨blk,bs+off,none⟩:=by
       rcases hadr with hadr|hadr
       .exact hadr
       .omega
      have hfm:=xd8 i.size hfit
      have hshape:=uX h3
      rw[hsh]at hshape
      have hszz:sz=arr.size:=by cases hshape;rfl
      split at h
      .rename_i hin
       simp only[xc4,xc3]at h
       obtain⟨rfl,rfl⟩:=h
       obtain⟨w',hst,hS',hL'⟩:=H4 (P:=P) (vs:=arr0.toList) (as:=src) (off:=off+qJ*i.size) hS (hS.dom _ _ _ hη) hob hη (by simpa using hr0.1) (by omega)
        (λk b hb=>let⟨u,h1,h2,_⟩:=hr0.2 k b hb;⟨u,by simpa using h1,h2⟩) hr0.one
       refine⟨_,_,E,w',fits hfit ?_,.inl rfl,?_,hS',hL',λ_ _ h=>.inl h⟩
       .rw[O7 hfit ha0]
        simp[ea,zQ,<-xde]at hst ⊢
        simp[hst]
       .rw[ea]
        have hsh':w'.shape? blk=some (tt,sz):=by rw[hL'.ext.shape _ (xM hsh)];exact hsh
        exact .sref id _ off _ i.size true blk bs cs.length _ sCap hη (.inl rfl) (by omega) hfit ⟨λ_=>hx',λh=>by cases h⟩ ⟨tt,sz,hsh',hsz⟩
      .rename_i hin
       simp only[xc4,xc3]at h
       obtain⟨rfl,rfl⟩:=h
       obtain⟨w',arr',hst,hh,hs',hc',hos,hout⟩:=N8 (P:=P) (b:=blk) (o:=bs+off+qJ*i.size) (t:=t0) arr0.toList 0 w arr h3 (by have:=hr0.1;rw[xdk];omega) hr0.one
       have hblk:blk<w.heap.size:=xM hsh
       have hnl:((cs.drop off).take (qJ*i.size)++src).length=(qJ+m)*i.size:=by simp;omega
       have hheap:w'.heap[blk]?=some (.cells arr' t0 (0,0)):=by rw[hh];simp[hblk]
       have hsameb:∀b,b≠blk->w'.heap[b]?=w.heap[b]?:=λb hne=>by rw[hh,xdj (Ne.symm hne)]
       have hshw:∀b,b<w.heap.size->w'.shape? b=w.shape? b:=λb _=>by
        by_cases hbb:b=blk
        .subst hbb;rw[uX hheap,uX h3,hs']
        .simp[World.shape?,hsameb b hbb]
       obtain⟨hS',hL'⟩:=hS.bump (E':=_) (w':=w') (nb:=blk) (nbase:=bs+off) (new:=(cs.drop off).take (qJ*i.size)++src) (arr:=arr') (t:=t0) (hS.dom _ _ _ hη) hob hη rfl (.inl ⟨rfl,by rw[hh];simp⟩) (λb _ hne=>hsameb b hne) hshw hheap
        (by rw[hnl,hs'];omega) (λk b hb=>by
         have hck:=hc' (bs+off+k)
         simp only[xe9]at hck
         have hz0:=hr0.1
         rw[xf2]at hb
         have htl:((cs.drop off).take (qJ*i.size)).length=qJ*i.size:=by simp;omega
         rw[htl]at hb
         split at hb
         .rename_i hk
          rw[xe2,xc2 hk,xdq]at hb
          obtain⟨v,hv,hV',ho'⟩:=h5 _ _ hb
          refine⟨v,?_,hV',ho'⟩
          rw[hck,xc1 (by omega),xde];exact hv
         .rename_i hk
          obtain⟨v,hv,hV',ho'⟩:=hr0.2 _ _ hb
          have hkl:k-qJ*i.size<src.length:=(xcw.1 hb).1
          refine⟨v,?_,hV',ho'⟩
          rw[hck,xc2 (by rw[xdk];omega),show bs+off+k-(bs+off+qJ*i.size)=k-qJ*i.size from by omega]
          simpa using hv)
       refine⟨_,_,_,w',fits hfit ?_,.inl rfl,?_,hS',hL',λj ver' hne=>?_⟩
       .rw[O7 hfit ha0]
        simp[ea,zQ]at hst ⊢
        simp[hst]
       .rw[ea]
        refine .sref id _ 0 _ i.size true blk (bs+off) _ _ sCap (by show(if _ then _ else _)=_;rw[xc2 ⟨rfl,rfl⟩]) (.inl rfl) (by rw[hnl];omega) hfit ⟨λ_=>by rw[hnl];omega,λh=>by cases h⟩ ⟨t0,arr'.size,uX hheap,by rw[hs'];omega⟩
       .by_cases hj:j=id
        .subst hj;exact .inr (.inr ⟨_,by rw[hη];simp⟩)
        .left
         intro e
         apply hne
         show(if _ then _ else _)=_
         rw[xc1 (λh=>hj h.1)];exact e
     .have hnin:¬(off+(qJ+m)*i.size<=cs.length):=by
       intro hin
       have h1:(qJ+m)*i.size<=sCap*i.size:=by omega
       have:=Nat.le_of_mul_le_mul_right h1 hpos
       omega
      rw[xc1 hnin]at h
      simp only[xc4,xc3]at h
      obtain⟨rfl,rfl⟩:=h
      have hofc:∀w1:World,w1.heap=w.heap->∃arr,(Builtin.firstCells i.size qJ (.slice (some a) qJ sCap)).run P w1=.ok arr w1/\Row1 E w ((cs.drop off).take (qJ*i.size)) arr:=by
       have hel:elems st.objs i.size (.sref id vv off qJ i.size true)=some ((cs.drop off).take (qJ*i.size),qJ):=by
        simp[elems,hob,hle]
       obtain⟨_,_,h7⟩:=C0 (P:=P) hS hV hel
       intro w1 hw1
       obtain⟨arr,h8,h9⟩:=h7 qJ w1 (xc7 _) hw1
       rw[hus]at h8
       refine⟨arr,h8,?_⟩
       rw[xfj,Nat.min_self]at h9
       exact h9
      obtain⟨w1,cap,arr',hw1,hrun,hc1,hsz',hcells,hos1,hout1⟩:=x4u (P:=P) (base:=some a) (sCap:=sCap) (x:=x) (zs:=zs) hi hz hzs (by omega) hr ha hofc
      have hnl:((cs.drop off).take (qJ*i.size)++src).length=(qJ+m)*i.size:=by simp;omega
      have hol:((cs.drop off).take (qJ*i.size)).length=qJ*i.size:=by simp;omega
      let w':World:={w1 with heap:=w1.heap.push (.cells arr' e (0,0))}
      have hsameb:∀b,b<w.heap.size->w'.heap[b]?=w.heap[b]?:=λb hb=>by
       show(w1.heap.push _)[b]?=_
       rw[hw1,xe3 hb,xcl hb]
      have hheap:w'.heap[w.heap.size]?=some (.cells arr' e (0,0)):=by show(w1.heap.push _)[_]?=_;rw[hw1];simp
      obtain⟨hS',hL'⟩:=hS.bump (E':=_) (w':=w') (nb:=w.heap.size) (nbase:=0) (new:=(cs.drop off).take (qJ*i.size)++src) (arr:=arr') (t:=e) (hS.dom _ _ _ hη) hob hη rfl (.inr ⟨rfl,by show(w1.heap.push _).size=_;rw[hw1];simp⟩) (λb hb _=>hsameb b hb) (λb hb=>by simp[World.shape?,hsameb b hb]) hheap
       (by rw[hnl,hsz',hol,hsrc];omega) (λk b hb=>by simpa using hcells k b hb)
      have hm:(qJ+m)*i.size+(cap-(qJ+m))*i.size=cap*i.size:=by rw[<-xdr];congr 1;omega
      refine⟨_,.slice (some ⟨w.heap.size,0,none⟩) (qJ+m) cap,_,w',by simp[hrun,w'],.inl rfl,?_,hS',hL',λj ver' hne=>?_⟩
      .refine .sref id _ 0 _ i.size true w.heap.size 0 _ _ cap (by show(if _ then _ else _)=_;rw[xc2 ⟨rfl,rfl⟩]) (.inl rfl) (by rw[hnl];omega) hc1 ⟨λ_=>by rw[hnl];omega,λh=>by cases h⟩ ⟨e,arr'.size,uX hheap,by rw[hsz',hol,hsrc];omega⟩
      .by_cases hj:j=id
       .subst hj;exact .inr (.inr ⟨_,by rw[hη];simp⟩)
       .left
        intro e
        apply hne
        show(if _ then _ else _)=_
        rw[xc1 (λh=>hj h.1)];exact e
   .cases h
  .cases h
 .rename_i id ver off n z
  obtain⟨blk,bs,len,a,cap,hη,e',hadr,hlen,hn,hx,tt,sz,hsh,hsz⟩:=uL hV
  rw[hus]at e'
  cases e'
  have hcap:=hx.2 rfl
  split at h
  .rename_i cs vv fr hob
   split at h
   .rename_i hc
    obtain⟨rfl,rfl,hle,hr⟩:=hc
    split at h
    .rename_i h0
     simp only[xc4,xc3]at h
     exact zero h0 h.1.symm h.2.symm hn
    .rename_i h0
     simp only[xc4,xc3]at h
     refine fresh ((cs.drop off).take (qJ*i.size)) (by simp;omega) (by omega) hr (λw1 hw1=>?_) h.1.symm h.2.symm
     have hel:elems st.objs i.size (.sref id vv off qJ i.size false)=some ((cs.drop off).take (qJ*i.size),qJ):=by
      simp[elems,hob,hle]
     obtain⟨_,_,h7⟩:=C0 (P:=P) hS hV hel
     obtain⟨arr,h8,h9⟩:=h7 qJ w1 (xc7 _) hw1
     rw[hus]at h8
     refine⟨arr,h8,?_⟩
     rw[xfj,Nat.min_self]at h9
     exact h9
   .cases h
  .cases h
 .cases h
end
section
variable{P:Program}{E:Env}{w:World}{st:St}{id0:Id}{sl:Nat->AV}{ρ:Operand->Value}{o:Oper}{v:AV}{objs':Id->Option Ob}
theorem x8k{F:Nat->Prop}{η:Eta}{ζ:List Nat}{objs:Id->Option Ob}{z m:Nat}{src:List AV}{x:AV}{u:Value}(hV:V F w η ζ x u)(h:elems objs z x=some (src,m)):∃a n c,u=.slice a n c:=by
 unfold elems at h;split at h
 .have:=uK hV;exact⟨_,_,_,this⟩
 .obtain⟨a,cap,e,_⟩:=xN hV;exact⟨_,_,_,e⟩
 .obtain⟨_,_,_,a,cap,_,e,_⟩:=uL hV;exact⟨_,_,_,e⟩
 .cases h
theorem x4v{xs:Array Operand}{s x:AV}(h:xs.toList.map (ev sl)=[s,x]):∃p q,xs=#[p,q]/\ev sl p=s/\ev sl q=x:=by
 obtain⟨l⟩:=xs;match l,h with
 |[p,q],h=>simp at h;exact⟨p,q,rfl,h.1,h.2⟩
theorem two_types{a:Array TypeId}{t t':TypeId}(h:a.toList=[t,t']):a=#[t,t']:=by obtain⟨l⟩:=a;simp at h;subst h;rfl
theorem ok_append{c:Call}(hS:Sim E w st)(hsl:∀x:Operand,E.V w (ev sl x) (ρ x))(hid:id0.1<st.next)(hf:∀ver,E.η id0 ver=none)(ho:o.op=.call c)(hc:c.callee=.builtin .append)(h:qH P id0 o sl st.objs=some (v,objs')):Ok P E w st id0 (execOp ρ o) v objs':=by
 simp only[qH,ho,hc,rY,yI]at h;split at h
 .rename_i t t' s x ht harg;obtain⟨p,q,hpq,rfl,rfl⟩:=x4v harg;have htt:=two_types ht;split at h
  .rename_i e d hu hu';split at h
   .rename_i i zc hi hzc;split at h
    .rename_i hcc;obtain⟨hzl,hpos⟩:=hcc;obtain⟨zv,hz1,rfl,hz3⟩:=n6 hzc;simp only[xep,xdk]at hzl
     have hbase:∀{src:List AV} {m:Nat},(match ev sl p with
      | .sc (.slice none 0 0)=>if m=0 then some (ev sl p,st.objs)else if qW m i.bytes then some (AV.sref id0 0 0 m i.size true,qM st.objs id0 (some (.row src 0 false)))else none
      | .slit cs n true=>if n*i.size<=cs.length then(if m=0 then some (ev sl p,st.objs)else if qW (n+m) i.bytes then some (.sref id0 0 0 (n+m) i.size true,qM st.objs id0 (some (.row (cs.take (n*i.size)++src) 0 false)))else none)else none
      | .sref id ver off n z true=>match st.objs id with
        |some (.row cs v false)=>if v=ver/\z=i.size/\off+n*z<=cs.length/\qW (n+m) i.bytes then
         if m=0 then some (ev sl p,st.objs)
         else if off+(n+m)*z<=cs.length then some (.sref id ver off (n+m) z true,qM st.objs id (some (.row (rK cs (off+n*z) src) v false)))
         else some (.sref id (ver+1) 0 (n+m) z true,qM st.objs id (some (.row ((cs.drop off).take (n*z)++src) (v+1) false)))
         else none
        |_=>none
      | .sref id ver off n z false=>match st.objs id with
        |some (.row cs v _)=>if v=ver/\z=i.size/\off+n*z<=cs.length/\qW (n+m) i.bytes then
         if m=0 then some (ev sl p,st.objs)
         else some (.sref id0 0 0 (n+m) i.size true,qM st.objs id0 (some (.row ((cs.drop off).take (n*z)++src) 0 false)))
         else none
        |_=>none
      |_=>none:Option (AV×(Id->Option Ob)))=some (v,objs')->∃base qJ sCap,ρ p=.slice base qJ sCap:=by
      intro src m h
      have hV:=hsl p
      split at h
      .rename_i hp;rw[hp]at hV;exact⟨_,_,_,uK hV⟩
      .rename_i hp;rw[hp]at hV;obtain⟨a,cap,e,_⟩:=xN hV;exact⟨_,_,_,e⟩
      .rename_i hp;rw[hp]at hV;obtain⟨_,_,_,a,cap,_,e,_⟩:=uL hV;exact⟨_,_,_,e⟩
      .rename_i hp;rw[hp]at hV;obtain⟨_,_,_,a,cap,_,e,_⟩:=uL hV;exact⟨_,_,_,e⟩
      .cases h
     have hex:execOp ρ o=(do Pure.pure (.value (<-Builtin.append_ #[t,t'] o.type #[ρ p,ρ q]))):=(by rw[yN ho hc,htt,hpq];simp[builtin]);have fin:∀{zs:Bool} {base:Option Addr} {qJ sCap m:Nat} {x:Value} {app:Sem (Array Value)},(Builtin.append_ #[t,t'] o.type #[ρ p,ρ q]).run P w=(vG e i.size zs base qJ sCap m x app).run P w ->
      Ok P E w st id0 (do Pure.pure (.value (<-vG e i.size zs base qJ sCap m x app))) v objs'->Ok P E w st id0 (execOp ρ o) v objs':=by
      intro zs base qJ sCap m x app heq hok;obtain⟨nx,u,E',w',h1,h2⟩:=hok;refine⟨nx,u,E',w',?_,h2⟩;rw[hex];simp only[Sem.run_bind,heq]at h1 ⊢;exact h1
     split at h
     .rename_i src m hsrc;obtain⟨base,qJ,sCap,hp⟩:=hbase h;split at hsrc
      .rename_i k;split at hsrc
       .rename_i n hn;split at hsrc
        .rename_i hb;obtain⟨b1,b2,b3⟩:=hb;simp only[xc4,xc3]at hsrc;obtain⟨rfl,rfl⟩:=hsrc;obtain⟨k',hq⟩:=vV (hsl q) hn;refine fin (by rw[hp,hq];exact x8j hu hu' hi b1 b2 b3) (tail_ok (s:=ev sl p) (us:=ρ p) (src:=sF (zv.cells.toList.map .sc) (n.toNat*i.size)) hS hid hf hi hz1 hzl hpos (λw1 hw1=>?_) (by simp[sF]) hp h (hsl p));obtain⟨hzs,hz4⟩:=H6 (F:=E.F) (w:=w) (η:=E.η) (ζ:=E.ζ.1) zv.cells (n.toNat*i.size) (λ_=>by omega) hz3;by_cases h0:n.toNat*i.size=0
         .rw[xc2 h0];refine⟨#[],rfl,by simp[sF,h0],λk b hb=>by simp[sF,h0]at hb⟩
         .rw[xc1 h0];refine⟨(Array.range (n.toNat*i.size)).map (zv.cells[· % zv.cells.size]!),?_,hzs.1,λk b hb=>?_⟩
          .simp only[Sem.run_bind,hz1,Result.andThen_ok,Sem.run_pure,Builtin.zeroCells,hzl]
          .obtain⟨u,hu1,hu2⟩:=hzs.2 k b hb;exact⟨u,hu1,hu2,hz4 u (by simpa using xg1 hu1)⟩
        .cases hsrc
       .cases hsrc
      .rename_i hd;obtain⟨hl,hlen,hcells⟩:=C0 (P:=P) hS (hsl q) hsrc;refine fin (by rw[hp];exact x8i hu hu' (λk hk=>hd k hk) hi (hlen w)) (tail_ok (s:=ev sl p) (us:=ρ p) (src:=src) hS hid hf hi hz1 hzl hpos (λw1 hw1=>?_) hl hp h (hsl p));obtain⟨arr,h1,h2⟩:=hcells m w1 (xc7 _) hw1;exact⟨arr,h1,by rwa[<-hl,xfl]at h2⟩
     .cases h
    .cases h
   .cases h
  .cases h
 .cases h
theorem ok_copy{c:Call}(hS:Sim E w st)(hsl:∀x:Operand,E.V w (ev sl x) (ρ x))(ho:o.op=.call c)(hc:c.callee=.builtin .copy)(h:qH P id0 o sl st.objs=some (v,objs')):Ok P E w st id0 (execOp ρ o) v objs':=by
 simp only[qH,ho,hc,rY,zI]at h;split at h
 .rename_i t tr s x ht harg;obtain⟨p,q,hpq,rfl,rfl⟩:=x4v harg;split at h
  .rename_i e hu;split at h
   .rename_i i hi;split at h
    .rename_i src m hsrc;obtain⟨hl,hlen,hcells⟩:=C0 (P:=P) hS (hsl q) hsrc;have ht0:c.argTypes[0]?=some t:=(by rw[<-xf6,ht];rfl);have hex:execOp ρ o=(do Pure.pure (.value (<-Builtin.copy_ c.argTypes o.type #[ρ p,ρ q]))):=(by rw[yN ho hc,hpq];simp[builtin]);have hV:=hsl p;split at h
     .rename_i id ver off n z b hp;rw[hp]at hV;obtain⟨blk,bs,len,a,cap,hη,ep,hadr,hlen',hn,hx,_⟩:=uL hV;split at h
      .rename_i cs vv hob;split at h
       .rename_i hcc;obtain⟨rfl,rfl,hle⟩:=hcc;simp only[xc4,xc3]at h;obtain⟨rfl,rfl⟩:=h;have hk:Nat.min m n<=m:=Nat.min_le_left _ _;have hkn:Nat.min m n<=n:=Nat.min_le_right _ _;obtain⟨k,hkeq⟩:∃k,Nat.min m n=k:=⟨_,rfl⟩;rw[hkeq]at hk hkn ⊢;obtain⟨arr,h1,h2⟩:=hcells k w hk rfl;have hks:(src.take (k*i.size)).length=k*i.size:=(by have:=xd8 i.size hk;simp;omega);have hkn':=xd8 i.size hkn;obtain⟨w',hst,hS',hL'⟩:=H4 (P:=P) (vs:=arr.toList) (as:=src.take (k*i.size)) (off:=off) hS (hS.dom _ _ _ hη) hob hη (by simpa using h2.1) (by omega)
         (λj b hb=>let⟨u,h1,h2,_⟩:=h2.2 j b hb;⟨u,by simpa using h1,h2⟩) h2.one
        have hrun:∀w2:World,(storeCells a arr.toList).run P w=.ok () w2->(execOp ρ o).run P w=.ok (.value (.int .i64 k)) w2:=(by intro w2 hw2;rw[hex];simp[Builtin.copy_,ht0,rC hu,ep,hlen,tV hi,hkeq,h1,goInt,hw2]);rcases hadr with hadr|hadr
        .refine⟨_,.int .i64 k,E,w',hrun w' (by rw[hadr];exact hst),.inl rfl,.sc _,hS',hL',λ_ _ h=>.inl h⟩
        .have hk0:k=0:=(by omega);have hemp:arr.toList=[]:=(by have:=h2.1;rw[hks,hk0,xdu]at this;have:arr=#[]:=Array.size_eq_zero_iff.1 this;simp[this]);refine .quiet (u:=.int .i64 k) hS (hrun w (by rw[hemp];rfl)) (.sc _) ?_;funext j;simp only[qM];split
         .rename_i hj;rw[hj,hob,hk0];simp[rK]
         .rfl
       .cases h
      .cases h
     .rename_i hp;rw[hp]at hV;have ep:=uK hV;simp only[xc4,xc3]at h;obtain⟨rfl,rfl⟩:=h;obtain⟨arr,h1,_⟩:=hcells 0 w (xf7 _) rfl;refine .quiet (u:=.int .i64 0) hS ?_ (.sc _) rfl;rw[hex];simp[Builtin.copy_,ht0,rC hu,ep,hlen,tV hi,h1,goInt]
     .cases h
    .cases h
   .cases h
  .cases h
 .cases h
end
end Go.Ix
