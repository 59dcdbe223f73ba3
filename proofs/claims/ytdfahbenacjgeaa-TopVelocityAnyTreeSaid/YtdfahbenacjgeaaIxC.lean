import Derived.Test.YtdfahbenacjgeaaIxB
import Derived.Laws.BytesString
import Derived.Lib.LaidTab
import Derived.Lib.ItoaNum
import Derived.AtR
import Derived.RangeFuncLeaves
set_option linter.unusedSimpArgs false
set_option linter.unusedVariables false
namespace Go.Ix
section
variable{P:Program}{E:Env}{w:World}{st:St}{id0:Id}{sl:Nat->AV}{ρ:Operand->Value}{o:Oper}{v:AV}{objs':Id->Option Ob}
theorem x8l{t:TypeId}{r:Option Operand}(hS:Sim E w st)(hid:id0.1<st.next)(hf:∀ver,E.η id0 ver=none)(ho:o.op=.makeMap t r)(h:qH P id0 o sl st.objs=some (v,objs')):Ok P E w st id0 (execOp ρ o) v objs':=by
 cases r with
 |some r=>simp[qH,ho]at h
 |none=>
  simp only[qH,ho,xc4,xc3]at h;obtain⟨rfl,rfl⟩:=h;let w':World:={w with heap:=w.heap.push (.map #[] 0)}
  let E':Env:={E with η:=λi v=>if i=id0/\v=0 then some (w.heap.size,0,0)else E.η i v,O:=λb=>if b=w.heap.size then some id0 else E.O b}
  have hsame:∀b,b<w.heap.size->w'.heap[b]?=w.heap[b]?:=λb hb=>by show(w.heap.push _)[b]?=_;rw[xe3 hb,xcl hb]
  have hη:∀i v x,E.η i v=some x->E'.η i v=some x:=λi v x h=>by
   show(if _ then _ else _)=_;split
   .rename_i e;rw[e.1,hf]at h;cases h
   .exact h
  obtain⟨h1,h2⟩:=hS.turn (E':=E') (w':=w') (id:=id0) (o:=.map []) (.of_same hsame) hid hη
   (λi v hne=>by show(if _ then _ else _)=_;rw[xc1 (λe=>hne e.1)]) rfl rfl rfl
   (λb hb=>by show(if _ then _ else _)=_;rw[xc1 (by omega)])
   (λb i hb hO=>by
    replace hO:(if b=w.heap.size then some id0 else E.O b)=some i:=hO
    split at hO
    .rename_i e;cases hO;exact⟨rfl,by show _<(w.heap.push _).size;simp;omega⟩
    .have:=(hS.own b i hO).2.2;omega)
   (by show _<=(w.heap.push _).size;simp) (λb hb=>by simp[World.shape?,hsame b hb]) (λb hb _=>hsame b hb)
   ⟨w.heap.size,#[],0,by show(if _ then _ else _)=_;rw[xc2 ⟨rfl,rfl⟩],λv' hv'=>by
    show(if _ then _ else _)=_
    rw[xc1 (by rintro⟨_,e⟩;omega)];exact hf v',by show(w.heap.push _)[_]?=_;simp,⟨rfl,by simp,by simp⟩,λi e m he=>by simp at he,by show(if _ then _ else _)=_;rw[xc2 rfl]⟩
  refine⟨_,.map (some w.heap.size),E',w',by simp[execOp,ho,Instr.makeMap];rfl,.inl rfl,.mp id0 w.heap.size (by show(if _ then _ else _)=_;rw[xc2 ⟨rfl,rfl⟩]),h1,h2,λi ver hne=>?_⟩;by_cases hi:i=id0
  .exact .inr (.inl hi)
  .left;intro e;apply hne;show(if _ then _ else _)=_;rw[xc1 (λh=>hi h.1)];exact e
theorem ba_eq{s t:ByteArray}(h:(s == t)=true):s=t:=by cases s;cases t;have h':ByteArray.beq _ _=true:=h;unfold ByteArray.beq at h';simp at h';rw[h']
theorem ba_refl(s:ByteArray):(s == s)=true:=by show ByteArray.beq s s=true;unfold ByteArray.beq;simp
theorem H7{r:Nat}{es:Array MapEntry}{c:Nat}(h:w.heap[r]?=some (.map es c)):(getObj r).run P w=.ok (.map es c) w:=by simp[getObj,Sem.run,h]
theorem ok_bytes{a:Value}{cs:List AV}{x:Operand}{s d:TypeId}(hS:Sim E w st)(hx:ρ x=a)(ho:o.op=.convert s d x)(h:G5 P s d a=some cs):Ok P E w st id0 (execOp ρ o) (.slit cs cs.length false) st.objs:=by
 unfold G5 at h;split at h
 .rename_i t;split at h
  .rename_i ds e hs hd;split at h
   .rename_i he;cases h;let arr:Array Value:=t.data.map λb=>.int .u8 b.toNat
    let cap:=Question.cut (.appendCap t.size 0 e) (w.tape w.drawn (.appendCap t.size 0 e))
    have hcap:t.size<=cap:=(by simp[cap,Question.cut]);let arr':Array Value:=arr++Array.replicate (cap-t.size) (.int .u8 0)
    let fz:Nat×Nat:=(arr'.size,arr'.size+1)
    let w':World:={w with drawn:=w.drawn+1,heap:=w.heap.push (.cells arr' e fz)}
    have hch:(choose (.appendCap t.size 0 e)).run P w=.ok cap {w with drawn:=w.drawn+1}:=(by simp[Question.forced,cap]);have hmk:(markStringish ⟨w.heap.size,0,none⟩).run P {w with drawn:=w.drawn+1,heap:=w.heap.push (.cells arr' e (0,0))}=.ok () w':=by
     have hs:World.shape? {w with drawn:=w.drawn+1,heap:=w.heap.push (.cells arr' e (0,0))} w.heap.size=some (e,arr'.size):=(by simp[World.shape?]);simp only[markStringish,shape,freeze,Sem.run_bind];simp only[Sem.run,hs,Result.andThen_ok];unfold World.freeze;rw[xc1 (by decide)];simp only[Result.ok.injEq,World.mk.injEq,true_and,and_true,w',fz];apply xf1;intro i;rw[xfh,Array.getElem?_push,Array.getElem?_push];by_cases hi:i=w.heap.size
     .subst hi;simp
     .rw[xc1 hi,xc1 (λh=>hi h.symm),xc1 hi]
    have hrun:(execOp ρ o).run P w=.ok (.value (.slice (some ⟨w.heap.size,0,none⟩) t.size cap)) w':=(by simp only[execOp,ho,hx,convert,Sem.run_bind,rC hs,rC hd,rC he,Result.andThen_ok,Conv.stringToBytes,hch,newRow,run_newObj,Sem.run_pure];rw[hmk];rfl);obtain⟨h3,h4⟩:=hS.lit (w':=w') (arr:=arr') (t:=e) (fz:=fz) rfl;have hn:(t.data.toList.map λb=>AV.sc (.int .u8 b.toNat)).length=t.size:=(by rw[xep];rfl);refine⟨_,_,_,_,hrun,.inl rfl,?_,h3,h4,λ_ _ h=>.inl h⟩;rw[hn];refine LitAt.slit ⟨λk a ha=>?_,λ_=>⟨.inr rfl,rfl⟩⟩ hcap (λh=>by cases h);rw[xeb,xc5]at ha;obtain⟨b,hb,rfl⟩:=ha;have hk:k<t.data.size:=(by have:=(xcw.1 hb).1;simpa using this);refine⟨.int .u8 b.toNat,?_,.sc _,rfl⟩;have hb':t.data[k]?=some b:=(by simpa using hb);have hts:t.size=t.data.size:=rfl;simp[World.cell?,w',arr',arr,xfi,hk,hb'];intro hh;omega
   .cases h
  .cases h
 .cases h
theorem x4w:∀{cs:List AV} {l:List UInt8},u8s cs=some l->∃ns:List Int,cs=ns.map (λn=>.sc (.int .u8 n))/\l=ns.map λn=>UInt8.ofNat n.toNat
 |[],l,h=>by simp[u8s]at h;subst h;exact⟨[],rfl,rfl⟩
 |a::cs,l,h=>by
  unfold u8s at h;split at h
  .rename_i e;cases e
  .rename_i n r e;cases e;simp only[xc5]at h;obtain⟨l',h1,rfl⟩:=h;obtain⟨ns,rfl,rfl⟩:=x4w h1;exact⟨n::ns,rfl,rfl⟩
  .cases h
theorem x4x:∀(ns:List Int) (s:ByteArray),ns.foldl (λr n=>r.push (UInt8.ofNat n.toNat)) s=⟨s.data++(ns.map λn=>UInt8.ofNat n.toNat).toArray⟩
 |[],s=>by cases s;simp
 |n::ns,s=>by rw[xeo,x4x ns];cases s;simp[ByteArray.push]
theorem ok_txt{x:Operand}{s d:TypeId}{t:ByteArray}(hS:Sim E w st)(hsl:∀x:Operand,E.V w (ev sl x) (ρ x))(ho:o.op=.convert s d x)(h:vZ P st.objs s d (ev sl x)=some t):Ok P E w st id0 (execOp ρ o) (.sc (.string t)) st.objs:=by
 unfold vZ at h;split at h
 .rename_i el hs hd;split at h
  .rename_i he;split at h
   .rename_i cs n hel;simp only[xc5]at h;obtain⟨l,hl,rfl⟩:=h;obtain⟨ns,rfl,rfl⟩:=x4w hl;obtain⟨h1,h2,h3⟩:=C0 (P:=P) hS (hsl x) hel;obtain⟨arr,h4,h5⟩:=h3 n w (xc7 _) rfl;rw[<-h1,xfl]at h5;have ea:arr=(ns.map (Value.int .u8)).toArray:=by
     refine Array.ext (by simp[h5.1]) λi i1 i2=>?_
     have hi:i<ns.length:=(by simpa using i2);obtain⟨v,e1,e2,-⟩:=h5.2 i (.sc (.int .u8 ns[i])) (by simp[hi]);have e3:=uK e2;subst e3;rw[xcl i1]at e1;simpa using xdn e1
    subst ea;obtain⟨a,m,c,e⟩:=x8k (hsl x) hel;refine .quiet (u:=.string ⟨(ns.map λn:Int=>UInt8.ofNat n.toNat).toArray⟩) hS ?_ (.sc _) rfl;have hl:(Builtin.lenOf (ρ x)).run P w=.ok m w:=(by rw[e];rfl);rw[h2 w]at hl;have hmn:n=m:=(by cases hl;rfl);subst hmn;cases a with
    |none=>rw[e]at h4;have h0:(ns.map (Value.int .u8)).toArray=#[]:=(by have:(Builtin.firstCells 1 n (.slice none n c)).run P w=.ok #[] w:=rfl;rw[this]at h4;injection h4 with h6;exact h6.symm);have:ns=[]:=(by simpa using h0);subst this;simp[execOp,ho,e,run_convert_bytes_string w s d el none n c hs he hd,Conv.bytesToString];rfl
    |some a=>rw[e]at h4;have h6:(loadCells a n).run P w=.ok (ns.map (Value.int .u8)).toArray w:=(by simpa[Builtin.firstCells]using h4);have:=run_bytesToString w a n c ns h6;rw[x4x]at this;simp[execOp,ho,e,run_convert_bytes_string w s d el (some a) n c hs he hd,this]
   .cases h
  .cases h
 .cases h
theorem x8m{s d:TypeId}{x:Operand}(hS:Sim E w st)(hsl:∀x:Operand,E.V w (ev sl x) (ρ x))(ho:o.op=.convert s d x)(h:qH P id0 o sl st.objs=some (v,objs')):Ok P E w st id0 (execOp ρ o) v objs':=by
 simp only[qH,ho]at h;split at h
 .rename_i t ht;cases h;exact ok_txt hS hsl ho ht
 simp only[xc5,xc3]at h;obtain⟨r,hr,rfl,rfl⟩:=h;unfold vS at hr;split at hr;rotate_left
 .have:=Ok.abs (id0:=id0) (us:=[ρ x]) hS hr rfl (one_V (hsl x));simpa[execOp,ho,cvtS]using this
 rename_i r' h0;cases hr;unfold cvt0 at h0;split at h0
 .rename_i a ha;have e:=uJ (hsl x) ha;split at h0
  .rename_i cs hc;cases h0;exact ok_bytes hS e ho hc
  .simp only[xc5]at h0;obtain⟨u,hu,rfl⟩:=h0;have:=Ok.pure (w:=w) (id0:=id0) hS hu;simpa[execOp,ho,e]using this
 .cases h0
theorem key_step{d:TypeDesc}{k:Value}{es:List (Value×AV)}(h:xG d k es=true){k':Value}{a:AV}(hm:(k',a)∈es):Instr.sameNow d k k'=some (sV k k')/\(sV k k'=true->k'=k):=by
 unfold xG at h;cases d with
 |int kd=>
  simp only[xdo,xc6,xc8,xch]at h;have h1:=h.1;have h2:=h.2 k' ⟨(k',a),hm,rfl⟩;cases k with
  |int kk n=>
   cases k' with
   |int kk' n'=>simp only[beq_iff_eq]at h1 h2;subst h1;subst h2;simp[Instr.sameNow,sV];intro e;exact e.symm
   |_=>simp at h2
  |_=>simp at h1
 |string=>
  simp only[xdo,xc6,xc8,xch]at h;have h1:=h.1;have h2:=h.2 k' ⟨(k',a),hm,rfl⟩;cases k with
  |string s=>
   cases k' with
   |string s'=>exact⟨rfl,λe=>by rw[ba_eq e]⟩
   |_=>simp at h2
  |_=>simp at h1
 |bool=>
  simp only[xdo,xc6,xc8,xch]at h;have h1:=h.1;have h2:=h.2 k' ⟨(k',a),hm,rfl⟩;cases k with
  |bool s=>
   cases k' with
   |bool s'=>simp[Instr.sameNow,sV];intro e;exact e.symm
   |_=>simp at h2
  |_=>simp at h1
 |_=>simp at h
theorem x8n{d:TypeDesc}{k:Value}{p:Value×AV}{es:List (Value×AV)}(h:xG d k (p::es)=true):xG d k es=true:=by cases d<;>simp only[xG,xcj,xdo,xc6,xcv]at h ⊢<;>exact⟨h.1,h.2.2⟩
theorem x4y{d:TypeDesc}{k:Value}:∀(es:List (Value×AV)) (ents:List MapEntry) (i:Nat),xG d k es=true->ents.length=es.length->(∀(j:Nat) (e:Value×AV) (m:MapEntry),es[j]?=some e->ents[j]?=some m->m.key=e.1) ->
 (Instr.findNow d k ents i=some none/\findKey k es=none/\∀x,setKey k x es=es++[(k,x)]) \/
 ∃j m a,ents[j]?=some m/\es[j]?=some (k,a)/\m.key=k/\Instr.findNow d k ents i=some (some (i+j,m.val))/\findKey k es=some a/\∀x,setKey k x es=es.set j (k,x)
 |[],ents,i,_,hl,_=>by have:ents=[]:=(by simpa using hl);subst this;exact .inl ⟨rfl,rfl,λ_=>rfl⟩
 |(k',a)::es,ents,i,hp,hl,hk=>by
  cases ents with
  |nil=>simp at hl
  |cons m ents=>
   have hmk:m.key=k':=hk 0 (k',a) m rfl rfl;obtain⟨h1,h2⟩:=key_step hp (k':=k') (a:=a) (by simp);cases hs:sV k k' with
   |true=>right;have e:=h2 hs;subst e;exact⟨0,m,a,rfl,rfl,hmk,by simp[Instr.findNow,hmk,h1,hs],by simp[findKey,hs],λx=>by simp[setKey,hs]⟩
   |false=>
    have ih:=x4y es ents (i+1) (x8n hp) (by simpa using hl) (λj e m he hm=>hk (j+1) e m he hm);rcases ih with ⟨g1,g2,g3⟩|⟨j,m',a',g1,g2,g3,g4,g5,g6⟩
    .left;exact⟨by simp[Instr.findNow,hmk,h1,hs,g1],by simp[findKey,hs,g2],λx=>by simp[setKey,hs,g3]⟩
    .right;refine⟨j+1,m',a',g1,g2,g3,?_,by simp[findKey,hs,g5],λx=>by simp[setKey,hs,g6]⟩;simp[Instr.findNow,hmk,h1,hs,g4];omega
theorem x8o{b:Bool}{kt:TypeId}{d:TypeDesc}{k:Value}{es:List (Value×AV)}(hu:P.underlying kt=some d)(hp:xG d k es=true):(Instr.checkKey b 10000 kt k).run P w=.ok () w:=by show(Instr.checkKey b (9999+1) kt k).run P w=.ok () w;unfold Instr.checkKey;unfold xG at hp;simp only[Sem.run_bind,rC hu,Result.andThen_ok];cases d<;>simp at hp<;>cases k<;>first|rfl|(simp at hp)
theorem O8:∀{a b:List Value},l6 a b=true->b=a
 |[],[],_=>rfl
 | .int k a::r,.int k' b::r',h=>by simp only[l6,xc6,beq_iff_eq]at h;obtain⟨⟨rfl,rfl⟩,h⟩:=h;rw[O8 h]
theorem O9{n:Nat}:∀{a:List Value},l6 a a=true->(a.zip a).all (λ(x,y)=>Instr.sameBits n x y)=true
 |[],_=>rfl
 | .int k a::r,h=>by simp only[l6,xc6]at h;simp[Instr.sameBits,O9 h.2]
structure KeyFacts (P:Program) (kt:TypeId) (k:Value) (es:List (Value×AV)):Prop where
 check:∀(b:Bool) (w:World),(Instr.checkKey b 10000 kt k).run P w=.ok () w
 bits:Instr.sameBits 10000 k k=true
 find:∀(w:World) (ents:List MapEntry),ents.length=es.length->(∀(j:Nat) (e:Value×AV) (m:MapEntry),es[j]?=some e->ents[j]?=some m->m.key=e.1) ->
  ((Instr.findKey kt k ents).run P w=.ok none w/\findKey k es=none/\∀x,setKey k x es=es++[(k,x)]) \/
  ∃j m a,ents[j]?=some m/\es[j]?=some (k,a)/\m.key=k/\(Instr.findKey kt k ents).run P w=.ok (some (j,m.val)) w/\findKey k es=some a/\∀x,setKey k x es=es.set j (k,x)
theorem P0{kt:TypeId}{k:Value}{w:World}:∀(es:List (Value×AV)) (ents:List MapEntry) (i:Nat),(∀e∈es,(∀w,(Op.equal kt k e.1).run P w=.ok (sV k e.1) w)/\(sV k e.1=true->e.1=k))->ents.length=es.length->(∀(j:Nat) (e:Value×AV) (m:MapEntry),es[j]?=some e->ents[j]?=some m->m.key=e.1) ->
 ((Instr.findAsking kt k ents i).run P w=.ok none w/\findKey k es=none/\∀x,setKey k x es=es++[(k,x)]) \/
 ∃j m a,ents[j]?=some m/\es[j]?=some (k,a)/\m.key=k/\(Instr.findAsking kt k ents i).run P w=.ok (some (i+j,m.val)) w/\findKey k es=some a/\∀x,setKey k x es=es.set j (k,x)
 |[],ents,i,_,hl,_=>by have:ents=[]:=(by simpa using hl);subst this;exact .inl ⟨rfl,rfl,λ_=>rfl⟩
 |(k',a)::es,ents,i,hp,hl,hk=>by
  cases ents with
  |nil=>simp at hl
  |cons m ents=>
   have hmk:m.key=k':=hk 0 (k',a) m rfl rfl;obtain⟨h1,h2⟩:=hp (k',a) (by simp);simp only at h1 h2;cases hs:sV k k' with
   |true=>right;have e:=h2 hs;subst e;rw[hs]at h1;exact⟨0,m,a,rfl,rfl,hmk,by simp[Instr.findAsking,hmk,h1],by simp[findKey,hs],λx=>by simp[setKey,hs]⟩
   |false=>
    rw[hs]at h1;have ih:=P0 (w:=w) es ents (i+1) (λe he=>hp e (xc9 _ he)) (by simpa using hl) (λj e m he hm=>hk (j+1) e m he hm);rcases ih with ⟨g1,g2,g3⟩|⟨j,m',a',g1,g2,g3,g4,g5,g6⟩
    .left;exact⟨by simp[Instr.findAsking,hmk,h1,g1],by simp[findKey,hs,g2],λx=>by simp[setKey,hs,g3]⟩
    .right;refine⟨j+1,m',a',g1,g2,g3,?_,by simp[findKey,hs,g5],λx=>by simp[setKey,hs,g6]⟩;simp[Instr.findAsking,hmk,h1,g4];omega
theorem x4z{kt:TypeId}{d:TypeDesc}{k:Value}{es:List (Value×AV)}(hu:P.underlying kt=some d)(h:yJ P kt d k es=true):KeyFacts P kt k es:=by
 unfold yJ at h;rw[xd3]at h;rcases h with hp|hp
 .refine⟨λb w=>x8o hu hp,?_,λw ents hl hk=>?_⟩
  .unfold xG at hp;cases d<;>simp at hp<;>cases k<;>simp_all [Instr.sameBits,ba_refl]
  .rcases x4y es ents 0 hp hl hk with ⟨g1,g2,g3⟩|⟨j,m,a,g1,g2,g3,g4,g5,g6⟩
   .exact .inl ⟨by simp[Instr.findKey,rC hu,g1],g2,g3⟩
   .exact .inr ⟨j,m,a,g1,g2,g3,by simp only[Instr.findKey,Sem.run_bind,rC hu,Result.andThen_ok,g4,Sem.run_pure,xd5],g5,g6⟩
 .unfold M7 at hp;split at hp
  .rename_i fs kc;simp only[xc6,xc8]at hp;obtain⟨⟨hkk,h1,h2⟩,h3⟩:=hp;have hck:∀(b:Bool) (w:World),(Instr.checkKey b 10000 kt (.agg kc)).run P w=.ok () w:=λb w=>by
    cases b with
    |true=>obtain⟨u,hu⟩:=xf8.1 h1;exact yM hu w
    |false=>obtain⟨u,hu⟩:=xf8.1 h2;exact yM hu w
   have hes:∀e∈es,(∃c,e.1=.agg c)/\(∀w,(Op.equal kt (.agg kc) e.1).run P w=.ok (sV (.agg kc) e.1) w)/\(sV (.agg kc) e.1=true->e.1=.agg kc):=λe he=>by
    have:=h3 e he;split at this
    .rename_i c b hc hb;have hbb:b=sV (.agg kc) e.1:=(by simpa using this);subst hbb;refine⟨⟨c,hc⟩,λw=>yM hb w,λhs=>?_⟩;rw[hc]at hs ⊢;simp only[sV]at hs;have:=O8 hs;rw[show c=kc from Array.toList_inj.1 this]
    .cases this
   refine⟨hck,?_,λw ents hl hk=>?_⟩
   .simp only[sV]at hkk;show Instr.sameBits (9999+1) (.agg kc) (.agg kc)=true;unfold Instr.sameBits;simp only[beq_self_eq_true,xda];exact O9 hkk
   .have hfn:∀{α:Type} (x:Sem (Option (Nat×Value))) ,(∀e,es[0]?=some e->(Instr.findKey kt (.agg kc) ents).run P w=(Instr.findAsking kt (.agg kc) ents).run P w):=λ{_} _ e he=>by
     cases es with
     |nil=>cases he
     |cons e0 es=>
      cases ents with
      |nil=>simp at hl
      |cons m0 ents=>obtain⟨c,hc⟩:=(hes e0 (by simp)).1;have:m0.key=.agg c:=(hk 0 e0 m0 rfl rfl).trans hc;simp[Instr.findKey,rC hu,Instr.findNow,Instr.sameNow,this]
    cases hes0:es with
    |nil=>subst hes0;have:ents=[]:=(by simpa using hl);subst this;exact .inl ⟨by simp[Instr.findKey,rC hu,Instr.findNow],rfl,λ_=>rfl⟩
    |cons e0 es'=>have hq:=hfn (α:=Unit) (Pure.pure none) e0 (by rw[hes0];rfl);rw[<-hes0,hq];have:=P0 (w:=w) es ents 0 (λe he=>(hes e he).2) hl hk;simpa only[xd5]using this
  .rename_i n0 el0 kc;simp only[xc6,xc8]at hp;obtain⟨⟨hkk,h1,h2⟩,h3⟩:=hp;have hck:∀(b:Bool) (w:World),(Instr.checkKey b 10000 kt (.agg kc)).run P w=.ok () w:=λb w=>by
    cases b with
    |true=>obtain⟨u,hu⟩:=xf8.1 h1;exact yM hu w
    |false=>obtain⟨u,hu⟩:=xf8.1 h2;exact yM hu w
   have hes:∀e∈es,(∃c,e.1=.agg c)/\(∀w,(Op.equal kt (.agg kc) e.1).run P w=.ok (sV (.agg kc) e.1) w)/\(sV (.agg kc) e.1=true->e.1=.agg kc):=λe he=>by
    have:=h3 e he;split at this
    .rename_i c b hc hb;have hbb:b=sV (.agg kc) e.1:=(by simpa using this);subst hbb;refine⟨⟨c,hc⟩,λw=>yM hb w,λhs=>?_⟩;rw[hc]at hs ⊢;simp only[sV]at hs;have:=O8 hs;rw[show c=kc from Array.toList_inj.1 this]
    .cases this
   refine⟨hck,?_,λw ents hl hk=>?_⟩
   .simp only[sV]at hkk;show Instr.sameBits (9999+1) (.agg kc) (.agg kc)=true;unfold Instr.sameBits;simp only[beq_self_eq_true,xda];exact O9 hkk
   .have hfn:∀{α:Type} (x:Sem (Option (Nat×Value))) ,(∀e,es[0]?=some e->(Instr.findKey kt (.agg kc) ents).run P w=(Instr.findAsking kt (.agg kc) ents).run P w):=λ{_} _ e he=>by
     cases es with
     |nil=>cases he
     |cons e0 es=>
      cases ents with
      |nil=>simp at hl
      |cons m0 ents=>obtain⟨c,hc⟩:=(hes e0 (by simp)).1;have:m0.key=.agg c:=(hk 0 e0 m0 rfl rfl).trans hc;simp[Instr.findKey,rC hu,Instr.findNow,Instr.sameNow,this]
    cases hes0:es with
    |nil=>subst hes0;have:ents=[]:=(by simpa using hl);subst this;exact .inl ⟨by simp[Instr.findKey,rC hu,Instr.findNow],rfl,λ_=>rfl⟩
    |cons e0 es'=>have hq:=hfn (α:=Unit) (Pure.pure none) e0 (by rw[hes0];rfl);rw[<-hes0,hq];have:=P0 (w:=w) es ents 0 (λe he=>(hes e he).2) hl hk;simpa only[xd5]using this
  .cases hp
theorem ok_lookup{t:TypeId}{x ix:Operand}{okb:Bool}(hS:Sim E w st)(hsl:∀x:Operand,E.V w (ev sl x) (ρ x))(ho:o.op=.lookup t x ix okb)(h:qH P id0 o sl st.objs=some (v,objs')):Ok P E w st id0 (execOp ρ o) v objs':=by
 simp only[qH,ho]at h;split at h
 .rename_i kt et k hu hk;have ek:=uJ (hsl ix) hk;split at h
  .rename_i d zv hd hzv;obtain⟨z,hz,rfl⟩:∃z,(∀w,(zeroValue et).run P w=.ok z w)/\zv=sE z:=by
    unfold B5 at hzv;split at hzv
    .rename_i i hi;split at hzv
     .rename_i z hz;cases hzv;exact⟨z,λw=>by simp[zeroValue,y7 hi,hz],rfl⟩
     .cases hzv
    .cases hzv
   split at h
   .rename_i es hes;split at h
    .rename_i hp;simp only[xc4,xc3]at h;obtain⟨hv,rfl⟩:=h;obtain⟨ents,hx,hl,hkeys,hvals⟩:∃ents:Array MapEntry,(ρ x=.map none/\ents=#[]\/∃r c,ρ x=.map (some r)/\w.heap[r]?=some (.map ents c))/\ents.toList.length=es.length /\
      (∀(j:Nat) (e:Value×AV) (m:MapEntry),es[j]?=some e->ents.toList[j]?=some m->m.key=e.1)/\(∀(j:Nat) (e:Value×AV) (m:MapEntry),es[j]?=some e->ents.toList[j]?=some m->E.V w e.2 m.val):=by
      have hV:=hsl x;unfold xH at hes;split at hes
      .rename_i id hx;rw[hx]at hV;obtain⟨blk,hη,e⟩:=V_mp hV;split at hes
       .rename_i es' hob;cases hes;obtain⟨blk',ents,clock,h1,_,h3,h4,h5,_⟩:=hS.obj _ _ hob;rw[hη]at h1;cases h1;exact⟨ents,.inr ⟨blk,clock,e,h3⟩,by simpa using h4.1,λj e m he hm=>(h5 j e m he (by simpa using hm)).1,λj e m he hm=>(h5 j e m he (by simpa using hm)).2⟩
       .cases hes
      .rename_i hx;rw[hx]at hV;cases hes;exact⟨#[],.inl ⟨uK hV,rfl⟩,rfl,λj e m he=>by simp at he,λj e m he=>by simp at he⟩
      .cases hes
     have hF:=x4z hd hp;have hck:=λb=>hF.check b w
     have main:∀(r:Option (Nat×Value)) (u:Value) (okv:Bool) (av:AV),(Instr.findKey kt k ents.toList).run P w=.ok r w->(r=none/\u=z/\okv=false\/∃i,r=some (i,u)/\okv=true)->E.V w av u ->
      v=(if okb then .tup [av,.sc (.bool okv)]else av)->Ok P E w st id0 (execOp ρ o) v st.objs:=by
      intro r u okv av hrun hr hV ev;refine .quiet (u:=if okb then .tuple #[u,.bool okv]else u) hS ?_ ?_ rfl
      .rcases hx with ⟨hx,rfl⟩|⟨r,c,hx,hh⟩<;>rcases hr with ⟨rfl,rfl,rfl⟩|⟨i,rfl,rfl⟩
       .simp only[execOp,ho,Instr.lookup,Sem.run_bind,rC hu,Result.andThen_ok,hx,Sem.run_pure,ek,hck,hrun,hz]
       .simp only[execOp,ho,Instr.lookup,Sem.run_bind,rC hu,Result.andThen_ok,hx,Sem.run_pure,ek,hck,hrun]
       .simp only[execOp,ho,Instr.lookup,Sem.run_bind,rC hu,Result.andThen_ok,hx,H7 hh,Sem.run_pure,ek,hck,hrun,hz]
       .simp only[execOp,ho,Instr.lookup,Sem.run_bind,rC hu,Result.andThen_ok,hx,H7 hh,Sem.run_pure,ek,hck,hrun]
      .rw[ev];cases okb with
       |false=>exact hV
       |true=>
        refine .tup _ _ (by simp) λi a v ha hv=>?_
        match i,ha,hv with
        |0,ha,hv=>simp at ha hv;subst ha;subst hv;exact hV
        |1,ha,hv=>simp at ha hv;subst ha;subst hv;exact .sc _
        |(i+2),ha,hv=>simp at ha
     rcases hF.find w ents.toList hl hkeys with ⟨g1,g2,_⟩|⟨j,m,a,g1,g2,g3,g4,g5,_⟩
     .exact main none z false (sE z) g1 (.inl ⟨rfl,rfl,rfl⟩) (B7 z) (by rw[<-hv,g2];rfl)
     .exact main (some (j,m.val)) m.val true a g4 (.inr ⟨_,rfl,rfl⟩) (hvals j _ m g2 g1) (by rw[<-hv,g5];rfl)
    .cases h
   .cases h
  .cases h
 .cases h
theorem born_push{ents:Array MapEntry}{clock:Nat}{k u:Value}(h1:∀x∈ents.toList,x.born<clock)(h2:(ents.toList.map (·.born)).Nodup) :
 (∀x∈(ents.push {key:=k,val:=u,born:=clock}).toList,x.born<clock+1)/\((ents.push {key:=k,val:=u,born:=clock}).toList.map (·.born)).Nodup:=by
 refine⟨λx hx=>?_,?_⟩
 .simp only[Array.toList_push,xd0,xf9]at hx;rcases hx with hx|rfl
  .exact Nat.lt_succ_of_lt (h1 x hx)
  .exact xec _
 .simp only[Array.toList_push,xds,xcj,xcy];refine xdv.2 ⟨h2,by simp,λa ha b hb=>?_⟩;simp only[xf9]at hb;subst hb;obtain⟨x,hx,rfl⟩:=xch.1 ha;exact Nat.ne_of_lt (h1 x hx)
theorem x8p{ents:Array MapEntry}{clock j:Nat}{k u:Value}(h1:∀x∈ents.toList,x.born<clock)(h2:(ents.toList.map (·.born)).Nodup) :
 (∀x∈(ents.modify j λe=>{e with key:=k,val:=u}).toList,x.born<clock)/\((ents.modify j λe=>{e with key:=k,val:=u}).toList.map (·.born)).Nodup:=by
 have e:(ents.modify j λe=>{e with key:=k,val:=u}).toList.map (·.born)=ents.toList.map (·.born):=by
  apply List.ext_getElem?;intro i;simp only[xeb,xf6,xfh];split
  .cases ents[i]?<;>rfl
  .rfl
 refine⟨λx hx=>?_,by rw[e];exact h2⟩;have hx':x.born∈(ents.modify j λe=>{e with key:=k,val:=u}).toList.map (·.born):=xch.2 ⟨x,hx,rfl⟩;rw[e]at hx';obtain⟨y,hy,e2⟩:=xch.1 hx';rw[<-e2];exact h1 y hy
theorem x50{t:TypeId}{x ix y:Operand}(hS:Sim E w st)(hsl:∀x:Operand,E.V w (ev sl x) (ρ x))(ho:o.op=.mapUpdate t x ix y)(h:qH P id0 o sl st.objs=some (v,objs')):Ok P E w st id0 (execOp ρ o) v objs':=by
 simp only[qH,ho]at h;split at h
 .rename_i kt et k id hu hk hx;have ek:=uJ (hsl ix) hk;split at h
  .rename_i d es hd hob;split at h
   .rename_i hp;simp only[xc4,xc3]at h;obtain⟨rfl,rfl⟩:=h;have hV:=hsl x;rw[hx]at hV;obtain⟨blk,hη,e⟩:=V_mp hV;obtain⟨blk',ents,clock,h1,h2,h3,⟨h4,hbn,hnd⟩,h5,h6⟩:=hS.obj _ _ hob;rw[hη]at h1;cases h1;have hb:blk<w.heap.size:=(hS.own _ _ h6).2.2;have hF:=x4z hd hp;have hck:=hF.check false w;have fin:∀(ents':Array MapEntry) (clock':Nat),(execOp ρ o).run P w=.ok .skip {w with heap:=w.heap.setIfInBounds blk (.map ents' clock')}->Szd ents' clock' (setKey k (Ix.ev sl y) es).length ->
     (∀(i:Nat) (e:Value×AV) (m:MapEntry),(setKey k (Ix.ev sl y) es)[i]?=some e->ents'[i]?=some m->m.key=e.1/\E.V w e.2 m.val)->Ok P E w st id0 (execOp ρ o) (.sc undef) (qM st.objs id (some (.map (setKey k (Ix.ev sl y) es)))):=by
     intro ents' clock' hrun hsz hcells;let w':World:={w with heap:=w.heap.setIfInBounds blk (.map ents' clock')}
     have hsame:∀b,b≠blk->w'.heap[b]?=w.heap[b]?:=λb hne=>by show(w.heap.setIfInBounds blk _)[b]?=_;rw[xdj (Ne.symm hne)]
     have hblk:w'.heap[blk]?=some (.map ents' clock'):=(by show(w.heap.setIfInBounds blk _)[blk]?=_;simp[hb]);have hsh:∀b,w'.shape? b=w.shape? b:=λb=>by
      by_cases hbb:b=blk
      .subst hbb;simp[World.shape?,hblk,h3]
      .simp[World.shape?,hsame b hbb]
     have hext:Ext E.G w w':=⟨by show _<=(w.heap.setIfInBounds blk _).size;simp,λb _=>hsh b,λb g _=>hsame b λe=>by
      subst e
      have:=hS.own b id h6
      rcases g with g|g
      .exact this.1 g
      .exact this.2.1 g,rfl,rfl⟩
     obtain⟨g1,g2⟩:=hS.turn (E':=E) (w':=w') (id:=id) (o:=.map (setKey k (Ix.ev sl y) es)) (.of_one h3 (by intro r e;cases e) hsame) (hS.dom _ _ _ hη) (λ_ _ _ h=>h) (λ_ _ _=>rfl) rfl rfl rfl (λ_ _=>rfl) (λb i hb' hO=>by have:=(hS.own b i hO).2.2;omega)
      (by show _<=(w.heap.setIfInBounds blk _).size;simp) (λb _=>hsh b) (λb _ hne=>hsame b λe=>by subst e;exact hne h6)
      ⟨blk,ents',clock',hη,h2,hblk,hsz,λi e m he hm=>⟨(hcells i e m he hm).1,V.mono (λ_ h=>h) (hext.weaken λ_ _ g=>.inl g) (hcells i e m he hm).2 (λ_ _ _ h=>h) (λ_ _ h=>h)⟩,h6⟩
     exact⟨.skip,undef,E,w',hrun,.inr ⟨rfl,rfl⟩,.sc _,g1,g2,λ_ _ h=>.inl h⟩
    rcases hF.find w ents.toList (by simpa using h4) (λj e m he hm=>(h5 j e m he (by simpa using hm)).1)with ⟨g1,g2,g3⟩|⟨j,m,a,g1,g2,g3,g4,g5,g6⟩
    .refine fin (ents.push {key:=k,val:=ρ y,born:=clock}) (clock+1) ?_ ⟨by rw[g3];simp[h4],born_push hbn hnd⟩ λi e' m' he hm=>?_
     .simp[execOp,ho,Instr.mapUpdate,rC hu,e,H7 h3,ek,hck,g1,setObj,Sem.run,h3]
     .rw[g3]at he;by_cases hi:i<es.length
      .rw[xed hi]at he;rw[xe3 (by omega)]at hm;exact h5 i e' m' he (by rw[xcl (by omega)];exact hm)
      .have hi2:i=es.length:=(by have:=(xcw.1 he).1;simp at this;omega);subst hi2;rw[xee (xc7 _)]at he;rw[<-h4]at hm;simp at he hm;subst he;subst hm;exact⟨rfl,hsl y⟩
    .refine fin (ents.modify j λe=>{e with key:=k,val:=ρ y}) clock ?_ ⟨by rw[g6];simp[h4],x8p hbn hnd⟩ λi e' m' he hm=>?_
     .have hsb:Instr.sameBits 10000 k k=true:=hF.bits;have hj:ents[j]?=some m:=(by simpa using g1);have hkk:(Instr.keyThatStays k k).run P w=.ok k w:=(by simp[Instr.keyThatStays,hsb]);simp only[execOp,ho,Instr.mapUpdate,Sem.run_bind,rC hu,Result.andThen_ok,e,H7 h3,ek,hck,g4,Sem.run_pure,hj,Option.map_some,Option.getD_some,g3,hkk];simp[setObj,Sem.run,h3]
     .rw[g6]at he;rw[xfh]at hm;by_cases hi:j=i
      .subst hi;have hlt:j<es.length:=(xcw.1 g2).1;rw[List.getElem?_set_self hlt]at he;have hj:ents[j]?=some m:=(by simpa using g1);simp[hj]at hm;cases he;subst hm;exact⟨rfl,hsl y⟩
      .rw[List.getElem?_set_ne hi]at he;rw[xc1 hi]at hm;exact h5 i e' m' he hm
   .cases h
  .cases h
 .cases h
theorem ok_insert{t:TypeId}{x ix y:Operand}(hS:Sim E w st)(hsl:∀x:Operand,E.V w (ev sl x) (ρ x))(ho:o.op=.insert t x ix y)(h:qH P id0 o sl st.objs=some (v,objs')):Ok P E w st id0 (execOp ρ o) v objs':=by have e1:qH P id0 {o with op:=.mapUpdate t x ix y} sl st.objs=qH P id0 o sl st.objs:=(by simp only[qH,ho]);have e2:execOp ρ {o with op:=.mapUpdate t x ix y}=execOp ρ o:=(by simp only[execOp,ho]);rw[<-e1]at h;rw[<-e2];exact x50 hS hsl rfl h
theorem ok_clear{c:Call}(hS:Sim E w st)(hsl:∀x:Operand,E.V w (ev sl x) (ρ x))(ho:o.op=.call c)(hc:c.callee=.builtin .clear)(h:qH P id0 o sl st.objs=some (v,objs')):Ok P E w st id0 (execOp ρ o) v objs':=by
 simp only[qH,ho,hc,rY,G6]at h;split at h
 .rename_i t s ht harg;obtain⟨p,hp,rfl⟩:∃p,c.args=#[p]/\ev sl p=s:=by
   match hl:c.args,harg with
   |⟨[p]⟩,harg=>simp at harg;exact⟨p,rfl,harg⟩
  have ht1:c.argTypes=#[t]:=by
   match hl:c.argTypes,ht with
   |⟨[p]⟩,ht=>simp at ht;rw[ht]
  have hex:execOp ρ o=(do Pure.pure (.value (<-Builtin.clear_ #[t] o.type #[ρ p]))):=(by rw[yN ho hc,hp,ht1];simp[builtin]);split at h
  .rename_i el hu;split at h
   .rename_i i z hi hz;split at h
    .rename_i hzl;obtain⟨zv,hz1,rfl,hz3⟩:=n6 hz;simp only[xep,xdk]at hzl;have hV:=hsl p;split at h
     .rename_i n cp hpp;cases h;rw[hpp]at hV;have e:=uK hV;refine .quiet (u:=.tuple #[]) hS ?_ (.tup _ _ rfl (by simp)) rfl;rw[hex];simp[Builtin.clear_,rC hu,e]
     .rename_i id ver off n z' f hpp;split at h
      .rename_i cs vv hob;split at h
       .rename_i hcond;obtain⟨rfl,rfl,hle⟩:=hcond;cases h;rw[hpp]at hV;obtain⟨blk,base,len,a,cap,hη,e,ha,hlen,hn,hxx,tt,sz,hsh,hsz⟩:=uL hV;by_cases hn0:n=0
        .subst hn0;refine .quiet (u:=.tuple #[]) hS ?_ (.tup _ _ rfl (by simp)) ?_
         .rw[hex];simp[Builtin.clear_,rC hu,e]
         .funext j;unfold qM;split
          .rename_i hj;subst hj;rw[hob];simp[rK,sF]
          .rfl
        .have ea:a=⟨blk,base+off,none⟩:=by
          rcases ha with ha|ha
          .exact ha
          .omega
         obtain⟨hzs,hz4⟩:=H6 (F:=E.F) (w:=w) (η:=E.η) (ζ:=E.ζ.1) zv.cells (n*i.size) (λhh=>by
          rw[hzl];rcases Nat.eq_zero_or_pos i.size with h0|h0
          .rw[h0]at hh;simp at hh
          .exact h0) hz3
         obtain⟨w',hr,hS',hL⟩:=H4 (P:=P) (vs:=((Array.range (n*i.size)).map (zv.cells[· % zv.cells.size]!)).toList) (as:=sF (zv.cells.toList.map .sc) (n*i.size)) (off:=off) hS (hS.dom _ _ _ hη) hob hη (by simpa using hzs.1) (by rw[<-hzs.1];simpa using hle)
          (λk b hb=>let⟨u,h1,h2⟩:=hzs.2 k b hb;⟨u,by rw[xf6];exact h1,h2⟩) (λu hu=>hz4 u hu)
         have hzc:Builtin.zeroCells zv.cells n=(Array.range (n*i.size)).map (zv.cells[· % zv.cells.size]!):=(by simp[Builtin.zeroCells,hzl]);refine⟨.value (.tuple #[]),.tuple #[],E,w',?_,.inl rfl,.tup _ _ rfl (by simp),hS',hL,λ_ _ h=>.inl h⟩;rw[hex];obtain⟨n,rfl⟩:∃k,n=k+1:=⟨n-1,by omega⟩;have hr2:=hr;rw[<-hzc]at hr2;simp[Builtin.clear_,rC hu,e,ea,hz1,hr2]
       .cases h
      .cases h
     .cases h
    .cases h
   .cases h
  .cases h
 .cases h
theorem op_ok(hS:Sim E w st)(hsl:∀x:Operand,E.V w (ev sl x) (ρ x))(hid:id0.1<st.next)(hf:∀ver,E.η id0 ver=none)(h:qH P id0 o sl st.objs=some (v,objs')):Ok P E w st id0 (execOp ρ o) v objs':=by
 cases ho:o.op with
 |move x=>exact ok_move hS hsl ho h
 |assign x=>exact ok_assign hS hsl ho h
 |pick c a b=>exact ok_pick hS hsl ho h
 |alloc t=>exact ok_alloc hS hid hf ho h
 |box t x=>exact ok_box hS hsl hid hf ho h
 |build t ps=>exact ok_build hS hsl ho h
 |buildSlice t l ps=>exact x8e hS hsl hid hf ho h
 |load t a=>exact ok_load hS hsl ho h
 |store t a x=>exact ok_store hS hsl ho h
 |nilCheck x=>exact x8b hS hsl ho h
 |binOp op t x y yt=>exact ok_binOp hS hsl ho h
 |unOp op t x=>exact ok_unOp hS hsl ho h
 |convert s d x=>exact x8m hS hsl ho h
 |makeFunc f a b=>exact x8c hS hsl ho h
 |makeMap t r=>exact x8l hS hid hf ho h
 |makeSlice t l c=>exact x8f hS hsl hid hf ho h
 |slice t x lo hi mx=>exact ok_slice hS hsl ho h
 |fieldAddr t x f=>exact x89 hS hsl ho h
 |sliceToArrayPointer t x=>exact ok_toArr hS hsl ho h
 |field t x f=>exact ok_field hS hsl ho h
 |indexAddr t x i=>exact x8a hS hsl ho h
 |index t x i=>exact ok_index hS hsl ho h
 |lookup t x i b=>exact ok_lookup hS hsl ho h
 |mapUpdate t m k x=>exact x50 hS hsl ho h
 |insert t m k x=>exact ok_insert hS hsl ho h
 |makeInterface t x=>exact x8g hS hsl ho h
 |extract x i=>exact x87 hS hsl ho h
 |call c=>
  cases hc:c.callee with
  |builtin b=>
   cases b with
   |append=>exact ok_append hS hsl hid hf ho hc h
   |copy=>exact ok_copy hS hsl ho hc h
   |len=>exact ok_len hS hsl ho hc h
   |cap=>exact y8 (.inl rfl) hS hsl ho hc h
   |max=>exact y8 (.inr (.inl rfl)) hS hsl ho hc h
   |min=>exact y8 (.inr (.inr (.inl rfl))) hS hsl ho hc h
   |real=>exact y8 (.inr (.inr (.inr (.inl rfl)))) hS hsl ho hc h
   |imag=>exact y8 (.inr (.inr (.inr (.inr (.inl rfl))))) hS hsl ho hc h
   |complex=>exact y8 (.inr (.inr (.inr (.inr (.inr rfl))))) hS hsl ho hc h
   |clear=>exact ok_clear hS hsl ho hc h
   |_=>simp[qH,ho,hc,rY]at h
  |_=>simp[qH,ho,hc]at h
 |_=>simp[qH,ho]at h
end
theorem H8{E:Env}{w:World}{st:St}(hS:Sim E w st){F':Nat->Prop}(hF:∀b,E.F b->F' b):∀(k:Nat) (a r:AV) (u:Value),frz st.objs k a=some r->E.V w a u ->
 (∀id∈reach st.objs k a,∀b,E.O b=some id->F' b)->V F' w eta0 [] r u
 |0,a,r,u,h,_,_=>by simp[frz]at h
 |k+1,a,r,u,h,hV,hO=>by
  have many:∀{cs rs:List AV} {vs:Array Value},cs.mapM (frz st.objs k)=some rs->vs.size=cs.length->(∀(i:Nat) (a:AV),cs[i]?=some a->∃v,vs[i]?=some v/\E.V w a v) ->
   (∀id∈cs.flatMap (reach st.objs k),∀b,E.O b=some id->F' b)->vs.size=rs.length/\∀(i:Nat) (a:AV) (v:Value),rs[i]?=some a->vs[i]?=some v->V F' w eta0 [] a v:=by
   intro cs rs vs hm hl hc hOO;obtain⟨h1,h2⟩:=zS hm;refine⟨by omega,λi a v ha hv=>?_⟩;have hi:i<cs.length:=(by rw[<-h1];exact(xcw.1 ha).1);obtain⟨b,hb,hfb⟩:=h2 i cs[i] (by simp[hi]);rw[ha]at hb;cases hb;obtain⟨v',hv',hVV⟩:=hc i cs[i] (by simp[hi]);rw[hv]at hv';cases hv';exact H8 hS hF k _ _ _ hfb hVV λid hid=>hOO id (xdc.2 ⟨_,xcp hi,hid⟩)
  have cells:∀{id:Id} {cs rs:List AV} {ver off n:Nat} {fr:Bool} {blk base len:Nat},st.objs id=some (.row cs ver fr)->E.η id ver=some (blk,base,len)->((cs.drop off).take n).mapM (frz st.objs k)=some rs ->
   (∀j∈id::((cs.drop off).take n).flatMap (reach st.objs k),∀b,E.O b=some j->F' b)->LitAt F' w ⟨blk,base+off,none⟩ rs:=by
   intro id cs rs ver off n fr blk base len hob hη hm hOO;obtain⟨_,_,arr,t,h3,h4,h5,h6⟩:=zR hS hob hη;obtain⟨h1,h2⟩:=zS hm;refine⟨λi b hb=>?_,λ_=>⟨?_,rfl⟩⟩
   .have hi:i<((cs.drop off).take n).length:=(by rw[<-h1];exact(xcw.1 hb).1);obtain⟨b',hb',hfb⟩:=h2 i _ (xci hi);rw[hb]at hb';cases hb';have hcs:cs[off+i]?=some ((cs.drop off).take n)[i]:=by
     rw[<-xdq];have:=xci hi;rw[xe2]at this;split at this
     .exact this
     .cases this
    obtain⟨v,hv,hVV,ho⟩:=h5 _ _ hcs;refine⟨v,?_,?_,ho⟩
    .rw[B8 h3];show arr[base+off+i]?=_;rw[xde];exact hv
    .exact H8 hS hF k _ _ _ hfb hVV λj hj=>hOO j (xc9 _ (xdc.2 ⟨_,xcp hi,hj⟩))
   .cases fr with
    |true=>simp at h6;exact hF _ h6
    |false=>simp at h6;exact hOO id (by simp) _ h6
  cases a with
  |sc x=>simp[frz]at h;subst h;rw[uK hV];exact .sc _
  |agg cs=>simp only[frz,xc5]at h;obtain⟨rs,hrs,rfl⟩:=h;obtain⟨vs,rfl,hl,hc⟩:=H1 hV;obtain⟨g1,g2⟩:=many hrs hl hc (by simpa[reach]using hO);exact .agg rs vs g1 g2
  |tup cs=>simp only[frz,xc5]at h;obtain⟨rs,hrs,rfl⟩:=h;obtain⟨vs,rfl,hl,hc⟩:=V_tup hV;obtain⟨g1,g2⟩:=many hrs hl hc (by simpa[reach]using hO);exact .tup rs vs g1 g2
  |slit cs n x=>
   simp[frz]at h;subst h;have:V F' w E.η E.ζ.1 (.slit cs n x) u:=V.mono hF (Ext.refl _ _) hV (λ_ _ _ h=>h) (λ_ _ h=>h);cases this with
   |slit cs n x a cap f h1 h2 h3 h4 h5 h6=>exact .slit cs n x a cap f h1 h2 h3 h4 h5 h6
  |plit cs=>
   simp[frz]at h;subst h;have:V F' w E.η E.ζ.1 (.plit cs) u:=V.mono hF (Ext.refl _ _) hV (λ_ _ _ h=>h) (λ_ _ h=>h);cases this with
   |plit cs a f h1 h2 h3 h4=>exact .plit cs a f h1 h2 h3 h4
  |sref id ver off n z x=>
   simp only[frz]at h;split at h
   .rename_i cs vv fr hob;split at h
    .rename_i hc;obtain⟨rfl,hle⟩:=hc;simp only[xc5]at h;obtain⟨rs,hrs,rfl⟩:=h;obtain⟨blk,base,len,a,cap,hη,rfl,ha,hlen,hn,_⟩:=uL hV;have hL:=cells (off:=off) (n:=n*z) hob hη hrs (by simpa[reach,hob]using hO);rcases ha with rfl|ha
     .exact hL.slit hn (λh=>by cases h)
     .have h0:n=0:=(by omega);have:rs=[]:=(by have:=(zS hrs).1;simp[h0]at this;exact this);subst this;exact LitAt.slit ⟨λi b hb=>by simp at hb,λh=>absurd rfl h⟩ hn (λh=>by cases h)
    .cases h
   .cases h
  |ptr id ver off=>
   simp only[frz]at h;split at h
   .rename_i cs vv fr hob;split at h
    .rename_i hc;subst hc;simp only[xc5]at h;obtain⟨rs,hrs,rfl⟩:=h;obtain⟨blk,base,len,hη,rfl⟩:=xO hV;have hL:=cells (off:=off) (n:=(cs.drop off).length) hob hη (by rwa[xfl]) (by rw[xfl];simpa[reach,hob]using hO);exact hL.plit
    .cases h
   .cases h
  |clo f cs=>simp only[frz,xc5]at h;obtain⟨rs,hrs,rfl⟩:=h;obtain⟨vs,rfl,hl,hc⟩:=l9 hV;obtain⟨g1,g2⟩:=many hrs hl hc (by simpa[reach]using hO);exact .clo f rs vs g1 g2
  |yld l=>simp[frz]at h
  |mp id=>simp[frz]at h
  |un p=>
   simp[frz]at h;subst h;cases hV with
   |un _ _ h1 h2=>exact .un _ _ h1 h2
theorem Sim.outside{E:Env}{w w':World}{st:St}{F':Nat->Prop}(hS:Sim E w st)(hx:Ext (λ_=>True) w w')(hF:∀b,E.F b->F' b)(hF':∀b,F' b->E.F b\/(w.heap.size<=b/\b<w'.heap.size)) :
 Sim {E with F:=F' } w' st/\Later E w {E with F:=F' } w':=by
 have hL:Later E w {E with F:=F' } w':=
  ⟨λ_ _ _ h=>h,hF,λb h=>(hF' b h).imp id λh=>.inl h.1,λ_ _ h=>.inl h,λ_ h=>h,λ_ h=>.inl h,rfl,hx.weaken λ_ _ _=>trivial,.of_same λb hb=>hx.same b trivial hb,λ_ _ _ _ _ _ _=>rfl⟩
 refine⟨⟨λi o ho=>?_,hS.dom,λb i h=>?_,λb h=>?_,hL.gl hS⟩,hL⟩
 .have hold:=hS.obj i o ho;cases o with
  |row cs ver fr=>
   obtain⟨blk,base,arr,t,h1,h2,h3,h4,h5,h6⟩:=hold;have hb:blk<w.heap.size:=xM (uX h3);refine⟨blk,base,arr,t,h1,h2,by rw[hx.same _ trivial hb];exact h3,h4,λk a ha=>?_,?_⟩
   .obtain⟨v,hv,hV,ho1⟩:=h5 k a ha;exact⟨v,hv,hV.later hL,ho1⟩
   .cases fr with
    |true=>simp at h6 ⊢;exact hF _ h6
    |false=>simpa using h6
  |bld t e l=>obtain⟨blk,p,v,h1,h2,h3,h4,h5,h6,h7,h8⟩:=hold;exact⟨blk,p,v,h1,h2,by rw[hx.same _ trivial (hS.own _ _ h7).2.2];exact h3,h4,h5.keep λg hg=>hx.same _ trivial (hS.own _ _ (h8 g hg)).2.2,h6,h7,h8⟩
  |lp d=>obtain⟨blk,r,h1,h2,h3,h4,h5⟩:=hold;have hb:blk<w.heap.size:=(hS.own _ _ h4).2.2;exact⟨blk,r,h1,h2,by rw[hx.same _ trivial hb];exact h3,h4,h5⟩
  |map es=>obtain⟨blk,ents,clock,h1,h2,h3,h4,h5,h6⟩:=hold;have hb:blk<w.heap.size:=(hS.own _ _ h6).2.2;exact⟨blk,ents,clock,h1,h2,by rw[hx.same _ trivial hb];exact h3,h4,λk e m he hm=>⟨(h5 k e m he hm).1,(h5 k e m he hm).2.later hL⟩,h6⟩
 .obtain⟨h1,h2,h3⟩:=hS.own b i h;refine⟨λhf=>?_,h2,xcq h3 hx.size⟩;rcases hF' b hf with hf|hf
  .exact h1 hf
  .omega
 .rcases h with h|h
  .rcases hF' b h with hf|hf
   .exact xcq (hS.fin b (.inl hf)) hx.size
   .exact hf.2
  .exact xcq (hS.fin b (.inr h)) hx.size
def wW(objs:Id->Option Ob)(id:Id):Bool:=
 match objs id with
 |some (.row _ _ _)=>true
 |_=>false
def shutF(E:Env)(st:St)(ids:List Id):Nat->Prop:=λb=>E.F b\/∃id,E.O b=some id/\id∈ids/\wW st.objs id=true
def wX(E:Env)(st:St)(ids:List Id):Nat->Option Id:=λb=>
 match E.O b with
 |some id=>if id∈ids/\wW st.objs id=true then none else some id
 |none=>none
def y9(E:Env)(st:St)(ids:List Id):Env:={E with F:=shutF E st ids,O:=wX E st ids}
theorem x51{E:Env}{st:St}{ids:List Id}{b:Nat}{i:Id}(h:wX E st ids b=some i):E.O b=some i/\¬(i∈ids/\wW st.objs i=true):=by
 unfold wX at h;cases hb:E.O b with
 |none=>simp[hb]at h
 |some j=>
  simp only[hb]at h;split at h
  .cases h
  .rename_i hn;cases h;exact⟨rfl,hn⟩
theorem Sim.shut{E:Env}{w:World}{st:St}(hS:Sim E w st)(ids:List Id):Sim (y9 E st ids) w {st with objs:=shut ids st.objs}/\Later E w (y9 E st ids) w:=by
 have hL:Later E w (y9 E st ids) w:=by
  refine⟨λ_ _ _ h=>h,λ_ h=>.inl h,λb h=>?_,λb i h=>.inl (x51 h).1,λ_ h=>h,λ_ h=>.inl h,rfl,Ext.refl _ _,Lsh.refl _,λ_ _ _ _ _ _ _=>rfl⟩;rcases h with h|⟨id,h,_⟩
  .exact .inl h
  .exact .inr (.inr (by rw[h];simp))
 refine⟨⟨λi o ho=>?_,hS.dom,λb i h=>?_,λb h=>?_,hL.gl hS⟩,hL⟩
 .simp only[Ix.shut]at ho;have keep:∀o,st.objs i=some o->¬(i∈ids/\wW st.objs i=true)->ObOK (y9 E st ids) w i o:=by
   intro o ho hni;have hold:=hS.obj i o ho;cases o with
   |row cs ver fr=>
    obtain⟨blk,base,arr,t,h1,h2,h3,h4,h5,h6⟩:=hold;refine⟨blk,base,arr,t,h1,h2,h3,h4,λk a ha=>?_,?_⟩
    .obtain⟨v,hv,hV,ho1⟩:=h5 k a ha;exact⟨v,hv,hV.later hL,ho1⟩
    .cases fr with
     |true=>simp at h6 ⊢;exact .inl h6
     |false=>simp at h6 ⊢;show wX E st ids blk=some i;unfold wX;simp only[h6];rw[xc1 hni]
   |bld t e l=>
    obtain⟨blk,p,v,h1,h2,h3,h4,h5,h6,h7,h8⟩:=hold;have hO:∀b,E.O b=some i->wX E st ids b=some i:=λb hb=>by unfold wX;simp only[hb];rw[xc1 hni]
    exact⟨blk,p,v,h1,h2,h3,h4,h5,h6,hO _ h7,λg hg=>hO _ (h8 g hg)⟩
   |lp d=>obtain⟨blk,r,h1,h2,h3,h4,h5⟩:=hold;refine⟨blk,r,h1,h2,h3,?_,h5⟩;show wX E st ids blk=some i;unfold wX;simp only[h4];rw[xc1 hni]
   |map es=>obtain⟨blk,ents,clock,h1,h2,h3,h4,h5,h6⟩:=hold;refine⟨blk,ents,clock,h1,h2,h3,h4,λk e m he hm=>⟨(h5 k e m he hm).1,(h5 k e m he hm).2.later hL⟩,?_⟩;show wX E st ids blk=some i;unfold wX;simp only[h6];rw[xc1 hni]
  split at ho
  .rename_i hi;split at ho
   .rename_i cs v f hob;cases ho;obtain⟨blk,base,arr,t,h1,h2,h3,h4,h5,h6⟩:=hS.obj i _ hob;refine⟨blk,base,arr,t,h1,h2,h3,h4,λk a ha=>?_,?_⟩
    .obtain⟨v,hv,hV,ho1⟩:=h5 k a ha;exact⟨v,hv,hV.later hL,ho1⟩
    .simp only[xcm];cases f with
     |true=>simp at h6;exact .inl h6
     |false=>simp at h6;exact .inr ⟨i,h6,hi,by simp[wW,hob]⟩
   .rename_i hn;refine keep o ho λhh=>?_
    have:=hh.2;unfold wW at this;split at this
    .rename_i cs v f e;exact hn cs v f e
    .cases this
  .rename_i hi;exact keep o ho λhh=>hi hh.1
 .obtain⟨h1,h2⟩:=x51 h;obtain⟨g1,g2,g3⟩:=hS.own b i h1;refine⟨λhf=>?_,g2,g3⟩;rcases hf with hf|⟨id,e,hm,hob⟩
  .exact g1 hf
  .rw[h1]at e;cases e;exact h2 ⟨hm,hob⟩
 .rcases h with (h|⟨id,h,_⟩)|h
  .exact hS.fin b (.inl h)
  .exact(hS.own b id h).2.2
  .exact hS.fin b (.inr h)
theorem x52{objs:Id->Option Ob}:∀(k:Nat) (a r:AV),frz objs k a=some r->∀id∈reach objs k a,wW objs id=true
 |0,a,r,h,id,hid=>by simp[frz]at h
 |k+1,a,r,h,id,hid=>by
  have many:∀{cs rs:List AV},cs.mapM (frz objs k)=some rs->∀id∈cs.flatMap (reach objs k),wW objs id=true:=(by intro cs rs hm id hid;obtain⟨b,hb,hid⟩:=xdc.1 hid;obtain⟨i,hi⟩:=xen.1 hb;obtain⟨r',_,hr'⟩:=(zS hm).2 i b hi;exact x52 k b r' hr' id hid);cases a with
  |agg cs=>simp only[frz,xc5]at h;obtain⟨rs,hrs,_⟩:=h;exact many hrs id (by simpa[reach]using hid)
  |tup cs=>simp only[frz,xc5]at h;obtain⟨rs,hrs,_⟩:=h;exact many hrs id (by simpa[reach]using hid)
  |clo f cs=>simp only[frz,xc5]at h;obtain⟨rs,hrs,_⟩:=h;exact many hrs id (by simpa[reach]using hid)
  |sref id' ver off n z x=>
   simp only[frz]at h;split at h
   .rename_i cs v f hob;split at h
    .simp only[xc5]at h;obtain⟨rs,hrs,_⟩:=h;simp only[reach,hob]at hid;rcases xce.1 hid with rfl|hid
     .simp[wW,hob]
     .exact many hrs id hid
    .cases h
   .cases h
  |ptr id' ver off=>
   simp only[frz]at h;split at h
   .rename_i cs v f hob;split at h
    .simp only[xc5]at h;obtain⟨rs,hrs,_⟩:=h;simp only[reach,hob]at hid;rcases xce.1 hid with rfl|hid
     .simp[wW,hob]
     .exact many hrs id hid
    .cases h
   .cases h
  |_=>simp[reach]at hid
structure After (E:Env) (w:World) (st:St) (E':Env) (w':World) (st':St):Prop where
 sim:Sim E' w' st'
 later:Later E w E' w'
 next:st.next<=st'.next
 dom:∀id ver,E'.η id ver≠none->(∃v0,E.η id v0≠none)\/st.next<=id.1
theorem After.refl{E:Env}{w:World}{st:St}(hS:Sim E w st):After E w st E w st:=⟨hS,.refl _ _,xc7 _,λ_ ver h=>.inl ⟨ver,h⟩⟩
theorem After.trans{E E1 E2:Env}{w w1 w2:World}{st st1 st2:St}(h:After E w st E1 w1 st1)(h':After E1 w1 st1 E2 w2 st2):After E w st E2 w2 st2:=
 ⟨h'.sim,h.later.trans h'.later,xd4 h.next h'.next,λid ver hn=>by
  rcases h'.dom id ver hn with ⟨v0,h0⟩|h0
  .exact h.dom id v0 h0
  .exact .inr (xd4 h.next h0)⟩
structure Past (E:Env) (w:World) (E':Env) (w':World):Prop where
 η:∀id ver x,E.η id ver=some x->E'.η id ver=some x
 F:∀b,E.F b->E'.F b
 ζ:E'.ζ=E.ζ
 ext:Ext E.F w w'
theorem Past.refl(E:Env)(w:World):Past E w E w:=⟨λ_ _ _ h=>h,λ_ h=>h,rfl,Ext.refl _ _⟩
theorem Past.trans{E E1 E2:Env}{w w1 w2:World}(h:Past E w E1 w1)(h':Past E1 w1 E2 w2):Past E w E2 w2:=
 ⟨λ_ _ _ e=>h'.η _ _ _ (h.η _ _ _ e),λ_ e=>h'.F _ (h.F _ e),h'.ζ.trans h.ζ,h.ext.trans h'.ext λ_ _ g=>h.F _ g⟩
theorem Later.past{E E':Env}{w w':World}(h:Later E w E' w'):Past E w E' w':=⟨h.η,h.F,h.ζ,h.ext.weaken λ_ _ g=>.inl g⟩
theorem Env.V.past{E E':Env}{w w':World}{a:AV}{v:Value}(h:E.V w a v)(l:Past E w E' w'):E'.V w' a v:=Ix.V.mono l.F l.ext h l.η (λ_ _ e=>by rw[l.ζ];exact e)
def ArgsV(E:Env)(w:World)(args:List AV)(vs:Array Value):Prop:=vs.size=args.length/\∀(i:Nat) (a:AV) (v:Value),args[i]?=some a->vs[i]?=some v->E.V w a v
theorem ArgsV.past{E E':Env}{w w':World}{args:List AV}{vs:Array Value}(h:ArgsV E w args vs)(l:Past E w E' w'):ArgsV E' w' args vs:=⟨h.1,λi a v ha hv=>(h.2 i a v ha hv).past l⟩
def Held(E:Env)(w:World)(blk:Nat)(o:Obj):Prop:=E.X blk/\¬E.F blk/\w.heap[blk]?=some o
theorem Held.later{E E':Env}{w w':World}{st:St}{blk:Nat}{o:Obj}(h:Held E w blk o)(hS:Sim E w st)(l:Later E w E' w'):Held E' w' blk o:=by
 obtain⟨h1,h2,h3⟩:=h;have hlt:blk<w.heap.size:=hS.fin blk (.inr h1);refine⟨l.X _ h1,λhf=>?_,by rw[l.ext.same blk (.inr h1) hlt];exact h3⟩;rcases l.newF blk hf with h4|h4|h4
 .exact h2 h4
 .omega
 .cases ho:E.O blk with
  |none=>exact h4 ho
  |some id=>exact(hS.own blk id ho).2.1 h1
def Rec(E:Env)(w:World)(id:Id)(blk:Nat)(r:Loop):Prop:=if id.2.2=0 then Held E w blk (.loop r)else ∃r1,w.heap[blk]?=some (.loop r1)/\uC r1=r
theorem Rec.lt{E:Env}{w:World}{st:St}{id:Id}{blk:Nat}{r:Loop}(hS:Sim E w st)(h:Rec E w id blk r):blk<w.heap.size:=by
 unfold Rec at h;split at h
 .exact hS.fin _ (.inr h.1)
 .obtain⟨r1,h1,_⟩:=h;exact l8 h1
theorem Rec.later{E E':Env}{w w':World}{st:St}{id:Id}{blk:Nat}{r:Loop}(h:Rec E w id blk r)(hS:Sim E w st)(l:Later E w E' w'):Rec E' w' id blk r:=by
 unfold Rec at h ⊢;split at h
 .rename_i hi;rw[xc2 hi];exact h.later hS l
 .rename_i hi;rw[xc1 hi];obtain⟨r1,h1,h2⟩:=h;obtain⟨r2,h3,h4⟩:=l.lsh _ _ h1;exact⟨r2,h3,h4.trans h2⟩
def isErr(v:Value):Prop:=∃te pe,v=.iface te pe
def n7(P:Program)(w:World):Prop:=
 (P.funcs.any (·.name == "strconv.Itoa")=true->Lib.TabIs P w "internal/strconv.uint64pow10" .u64 Lib.pow10Tab) /\
 (P.funcs.any (·.name == "strconv.Atoi")=true->(∃v,w.var? P "strconv.ErrSyntax" = some #[v]/\isErr v)/\∃v,w.var? P "strconv.ErrRange" = some #[v]/\isErr v)
def ZOK(P:Program)(E:Env):Prop:=∀w,E.ζ.2 w->n7 P w
def HsOK(P:Program):Hs->Env->World->Prop
 |[],E,_=>ZOK P E
 |(id,h)::rest,E,w=>HsOK P rest E w/\∃blk r,E.η id 0=some (blk,0,0)/\Rec E w id blk r/\r.state=.ready/\r.pending=none/\(∀p∈rest,∀blk',E.η p.1 0=some (blk',0,0)->blk'≠blk) /\
  ∀(E1:Env) (w1:World) (st:St) (args:List AV) (vs:Array Value) (st':St),Past E w E1 w1->Sim E1 w1 st->HsOK P rest E1 w1->Rec E1 w1 id blk r->ArgsV E1 w1 args vs->h args st=some st' ->
   ∃f tmps assign body,(Instr.yield blk vs).run P w1=.ok (.round blk f tmps assign body) w1 /\
    ∀(fr:Frame) (cs:List Frame),∃E' w',Steps P (lone (Frame.round blk f tmps assign body .normal) (fr::cs) w1) (lone (fr.finish (.bool (vD st'.objs id))) cs w')/\After E1 w1 st E' w' st'
theorem hs_eta{P:Program}{E:Env}{w:World}:∀{hs:Hs},HsOK P hs E w->∀p∈hs,∃blk,E.η p.1 0=some (blk,0,0)
 |[],_=>λp hp=>by simp at hp
 |_::_,⟨h1,blk,r,h2,_⟩=>λp hp=>by
  rcases xce.1 hp with rfl|hp
  .exact⟨blk,h2⟩
  .exact hs_eta h1 p hp
theorem HsOK.z{P:Program}{E:Env}{w:World}:∀{hs:Hs},HsOK P hs E w->ZOK P E
 |[],h=>h
 |_::_,⟨h,_⟩=>h.z
theorem HsOK.later{P:Program}{E E':Env}{w w':World}{st:St}(hS:Sim E w st)(l:Later E w E' w'):∀{hs:Hs},HsOK P hs E w->HsOK P hs E' w'
 |[],h=>λw hw=>h w (by rw[<-l.ζ];exact hw)
 |_::_,⟨h1,blk,r,h2,h3,h4,h5,h7,h6⟩=>⟨h1.later hS l,blk,r,l.η _ _ _ h2,h3.later hS l,h4,h5,λp hp blk' hb=>by
   obtain⟨b0,hb0⟩:=hs_eta h1 p hp
   have:=l.η _ _ _ hb0
   rw[hb]at this;cases this
   exact h7 p hp _ hb0,λE1 w1 st args vs st' hp=>h6 E1 w1 st args vs st' (l.past.trans hp)⟩
def uM(P:Program)(f:FuncId):Prop:=∃fn,P.funcs[f]?=some fn/\fn.body.isNone=false/\fn.name≠"runtime.NumGoroutine"
def P1(P:Program)(f:FuncId)(vs:Array Value)(w:World)(cs:List Frame)(w':World)(u:Value):Prop:=
 (uM P f/\∃fr',Steps P (lone (Frame.enter P f vs .normal) cs w) (lone fr' cs w')/\fr'.fn=f/\fr'.leaving P w' (.returned u))\/(¬uM P f/\(callFunc f vs).run P w=.ok (.value u) w')
def tO(P:Program)(call:Hs->FuncId->List AV->St->Option (AV×St)):Prop:=
 ∀(hs:Hs) (f:FuncId) (args:List AV) (st:St) (r:AV) (st':St),call hs f args st=some (r,st')->∀(E:Env) (w:World) (vs:Array Value),Sim E w st->ArgsV E w args vs->HsOK P hs E w ->
  (uM P f\/args.all vOK=true)/\∀cs:List Frame,∃E' w' u,P1 P f vs w cs w' u/\E'.V w' r u/\After E w st E' w' st'
def zU(F:Nat->Prop)(K:World->Prop)(w:World):Env:={η:=eta0,F:=F,O:=λ_=>none,X:=λb=>b<w.heap.size,ζ:=([],K)}
theorem C1{F:Nat->Prop}{K:World->Prop}{w:World}(hF:∀b,F b->b<w.heap.size)(n:Nat)(hK:∀w',Ext F w w'->K w'):Sim (zU F K w) w {objs:=λ_=>none,next:=n}:=
 ⟨λ_ _ h=>(by cases h),λ_ _ _ h=>(by cases h),λ_ _ h=>(by cases h),λb h=>h.elim (hF b) id,hK⟩
theorem C2{P:Program}{F:Nat->Prop}{K:World->Prop}{w:World}(hK:∀w,K w->n7 P w):HsOK P [] (zU F K w) w:=hK
theorem C3{F:Nat->Prop}{K:World->Prop}{w w':World}{E':Env}(h:Later (zU F K w) w E' w'):Ext (λ_=>True) w w':=⟨h.ext.size,h.ext.shape,λb _ hb=>h.ext.same b (.inr hb) hb,h.ext.os,h.ext.out⟩
theorem ObOK.eta{E:Env}{w:World}{id:Id}{o:Ob}(h:ObOK E w id o):∃ver,E.η id ver≠none:=by
 cases o with
 |row cs ver fr=>obtain⟨blk,base,arr,t,h1,_⟩:=h;exact⟨ver,by rw[h1];simp⟩
 |map es=>obtain⟨blk,ents,clock,h1,_⟩:=h;exact⟨0,by rw[h1];simp⟩
 |bld t e l=>obtain⟨blk,p,v,h1,_⟩:=h;exact⟨0,by rw[h1];simp⟩
 |lp d=>obtain⟨blk,r,h1,_⟩:=h;exact⟨0,by rw[h1];simp⟩
theorem Sim.old{E:Env}{w:World}{st:St}(hS:Sim E w st){id:Id}{o:Ob}(h:st.objs id=some o):id.1<st.next:=by
 obtain⟨ver,hv⟩:=(hS.obj id o h).eta;cases he:E.η id ver with
 |none=>exact absurd he hv
 |some x=>exact hS.dom _ _ _ he
theorem plain_V{F F':Nat->Prop}{w w':World}{η η':Eta}{ζ ζ':List Nat}{r:AV}{u:Value}(hp:xI r=true)(h:V F w η ζ r u):V F' w' η' ζ' r u:=by
 have sc:∀{a:AV} {v:Value},(match a with | .sc _=>true|_=>false)=true->V F w η ζ a v->V F' w' η' ζ' a v:=(by intro a v ha hv;cases hv<;>simp at ha;exact .sc _);cases h with
 |sc _=>exact .sc _
 |agg cs vs hl h=>exact .agg cs vs hl λi a v ha hv=>sc (xc8.1 hp a (xd1 ha)) (h i a v ha hv)
 |tup cs vs hl h=>exact .tup cs vs hl λi a v ha hv=>sc (xc8.1 hp a (xd1 ha)) (h i a v ha hv)
 |_=>simp[xI]at hp
theorem clean_V{F:Nat->Prop}{w:World}{η:Eta}{ζ:List Nat}{a:AV}{u:Value}(h:V F w η ζ a u)(hc:clean a=true):V F w eta0 [] a u:=by
 cases h with
 |agg cs vs hl h=>exact .agg cs vs hl λi a v ha hv=>O0 (h i a v ha hv) (xc8.1 hc a (xd1 ha))
 |sc _=>exact .sc _
 |tup cs vs hl h=>simp[clean,clean1]at hc
 |slit cs n x a cap f h1 h2 h3 h4 h5 h6=>exact .slit cs n x a cap f h1 h2 h3 h4 h5 h6
 |plit cs a f h1 h2 h3 h4=>exact .plit cs a f h1 h2 h3 h4
 |clo f cs vs hl h=>exact O0 (.clo f cs vs hl h) hc
 |sref _ _ _ _ _ _ _ _ _ _ _ _ _ _ _ _ _=>simp[clean,clean1]at hc
 |ptr _ _ _ _ _ _ _=>simp[clean,clean1]at hc
 |yld _ _ _=>simp[clean,clean1]at hc
 |mp _ _ _=>simp[clean,clean1]at hc
 |un p _ h h1=>exact .un p _ h h1
theorem ArgsV.append{E:Env}{w:World}{as bs:List AV}{us vs:Array Value}(h:ArgsV E w as us)(h':ArgsV E w bs vs):ArgsV E w (as++bs) (us++vs):=by
 refine⟨by simp[h.1,h'.1],λi a v ha hv=>?_⟩;rw[xf2]at ha;rw[xfi,h.1]at hv;split at ha
 .rename_i hi;rw[xc2 hi]at hv;exact h.2 i a v ha hv
 .rename_i hi;rw[xc1 hi]at hv;exact h'.2 _ a v ha hv
theorem P2{E:Env}{w:World}{st:St}(hS:Sim E w st){F':Nat->Prop}(hF:∀b,E.F b->F' b){k:Nat}{as rs:List AV}{vs:Array Value}(h:as.mapM (frz st.objs k)=some rs)(hA:ArgsV E w as vs)(hO:∀id∈as.flatMap (reach st.objs k),∀b,E.O b=some id->F' b):vs.size=rs.length/\∀(i:Nat) (a:AV) (v:Value),rs[i]?=some a->vs[i]?=some v->V F' w eta0 [] a v:=by obtain⟨h1,h2⟩:=zS h;refine⟨by rw[hA.1,h1],λi a v ha hv=>?_⟩;have hi:i<as.length:=(by rw[<-h1];exact(xcw.1 ha).1);obtain⟨b,hb,hfb⟩:=h2 i as[i] (by simp[hi]);rw[ha]at hb;cases hb;exact H8 hS hF k _ _ _ hfb (hA.2 i as[i] v (by simp[hi]) hv) λid hid=>hO id (xdc.2 ⟨_,xcp hi,hid⟩)
section
variable{P:Program}{call:Hs->FuncId->List AV->St->Option (AV×St)}{hs:Hs}{E:Env}{w:World}{st st':St}{f:FuncId}{args:List AV}{vs:Array Value}{r:AV}
def wY(P:Program)(E:Env)(w:World)(st:St)(f:FuncId)(vs:Array Value)(r:AV)(st':St):Prop:=
 ∀cs:List Frame,∃E' w' u,P1 P f vs w cs w' u/\E'.V w' r u/\After E w st E' w' st'
theorem mode0(hZ:ZOK P E)(hc:tO P call)(hS:Sim E w st)(hA:ArgsV E w args vs){l:List AV}{r0:AV}{stc:St}(hl:args.mapM (frz st.objs qN)=some l)(hcall:call [] f l vT=some (r0,stc))(hr:frz stc.objs qN r0=some r) :
 wY P E w st f vs r {st with objs:=shut (args.flatMap (reach st.objs qN)) st.objs}:=by
 let ids:=args.flatMap (reach st.objs qN)
 obtain⟨hS1,hL1⟩:=hS.shut ids;have hrows:∀id∈ids,wW st.objs id=true:=(by intro id hid;obtain⟨a,ha,hid⟩:=xdc.1 hid;obtain⟨i,hi⟩:=xen.1 ha;obtain⟨r',_,hr'⟩:=(zS hl).2 i a hi;exact x52 _ _ _ hr' id hid);have hFs:∀b,(y9 E st ids).F b->b<w.heap.size:=λb h=>hS1.fin b (.inl h)
 obtain⟨-,g2⟩:=hc [] f l vT r0 stc hcall (zU (y9 E st ids).F E.ζ.2 w) w vs (C1 hFs 0 λw' h=>hS.gl w' (h.weaken λ_ _ g=>.inl g)) (P2 hS (λb h=>.inl h) hl hA λid hid b hb=>.inr ⟨id,hb,hid,hrows id hid⟩) (C2 hZ);intro cs;obtain⟨Ec,w',u,s1,s4,s5⟩:=g2 cs;have hx:=C3 s5.later;have hlt:∀b,Ec.O b≠none->w.heap.size<=b/\b<w'.heap.size:=λb hb=>by
  cases ho:Ec.O b with
  |none=>exact absurd ho hb
  |some id=>
   have h1:=(s5.sim.own b id ho).2.2;rcases s5.later.newO b id ho with h2|h2
   .cases h2
   .exact⟨h2,h1⟩
 obtain⟨hS2,hL2⟩:=hS1.outside (F':=λb=>Ec.F b\/Ec.O b≠none) hx (λb h=>.inl (s5.later.F b h)) (λb h=>by
  rcases h with h|h
  .rcases s5.later.newF b h with h2|h2|h2
   .exact .inl h2
   .exact .inr ⟨h2,s5.sim.fin b (.inl h)⟩
   .exact absurd rfl h2
  .exact .inr (hlt b h))
 refine⟨_,w',u,s1,?_,hS2,hL1.trans hL2,xc7 _,λid ver h=>.inl ⟨ver,h⟩⟩;have:=H8 (F':=λb=>Ec.F b\/Ec.O b≠none) s5.sim (λb h=>.inl h) qN r0 r u hr s4 (λid _ b hb=>.inr (by rw[hb];simp));exact V_eta this
theorem mode3(hZ:ZOK P E)(hc:tO P call)(hS:Sim E w st)(hA:ArgsV E w args vs){l:List AV}{stc:St}(hl:args.mapM (frz st.objs qN)=some l)(hcall:call [] f l vT=some (r,stc))(hp:xI r=true):wY P E w st f vs r st:=by obtain⟨-,g2⟩:=hc [] f l vT r stc hcall (zU (λb=>b<w.heap.size) E.ζ.2 w) w vs (C1 (λ_ h=>h) 0 λw' h=>hS.gl w' (h.weaken λb _ g=>hS.fin b (.inl g))) (P2 hS (λb h=>hS.fin b (.inl h)) hl hA λid _ b hb=>(hS.own b id hb).2.2) (C2 hZ);intro cs;obtain⟨Ec,w',u,s1,s4,s5⟩:=g2 cs;obtain⟨hS2,hL2⟩:=hS.outside (F':=E.F) (C3 s5.later) (λ_ h=>h) (λ_ h=>.inl h);exact⟨_,w',u,s1,plain_V hp s4,hS2,hL2,xc7 _,λid ver h=>.inl ⟨ver,h⟩⟩
theorem adopt{Ec:Env}{w':World}{stc:St}{F':Nat->Prop}(hS:Sim E w st)(hx:Ext (λ_=>True) w w')(hSc:Sim Ec w' stc)(hdom:∀id ver,Ec.η id ver≠none->st.next<=id.1)(hnext:st.next<=stc.next)(hOc:∀b id,Ec.O b=some id->w.heap.size<=b)(hF:∀b,E.F b->F' b)(hF':∀b,F' b->E.F b\/(w.heap.size<=b/\b<w'.heap.size))(keep:Id->Bool)(hk:∀id o,stc.objs id=some o->keep id=true->∀E':Env,E'.F=F'->(∀i v x,Ec.η i v=some x->keep i=true->E'.η i v=some x)->ObOK Ec w' id o ->
 (∀cs v fr,o=.row cs v fr->∀a∈cs,∀u,Ec.V w' a u->E'.V w' a u)/\(∀es,o=.map es->∀p∈es,∀u,Ec.V w' p.2 u->E'.V w' p.2 u)/\(∀cs v,o=.row cs v true->∀b,Ec.F b->F' b)) (hFc:∀b,F' b->∀id,Ec.O b=some id->False) :
 ∃E':Env,After E w st E' w' {objs:=λi=>if keep i=true/\(stc.objs i).isSome then stc.objs i else st.objs i,next:=stc.next}/\E'.F=F'/\E'.ζ=E.ζ/\(∀i v x,Ec.η i v=some x->keep i=true->E'.η i v=some x)/\(∀i v x,E.η i v=some x->E'.η i v=some x):=by
 let E':Env:={η:=λi v=>match E.η i v with|some x=>some x|none=>if keep i then Ec.η i v else none,F:=F',O:=λb=>if b<w.heap.size then E.O b else(match Ec.O b with|some id=>if keep id then some id else none|none=>none),X:=E.X,ζ:=E.ζ}
 have hη:∀i v x,E.η i v=some x->E'.η i v=some x:=λi v x h=>by show(match E.η i v with|some x=>_|none=>_)=_;rw[h]
 have hηc:∀i v x,Ec.η i v=some x->keep i=true->E'.η i v=some x:=λi v x h hi=>by
  show(match E.η i v with|some x=>_|none=>_)=_
  cases he:E.η i v with
  |some y=>
   have h1:=hS.dom _ _ _ he
   have h2:=hdom i v (by rw[h];simp)
   omega
  |none=>simp[hi,h]
 have hη0:∀i v,st.next<=i.1->E.η i v=none:=λi v h=>by
  cases he:E.η i v with
  |some y=>have:=hS.dom _ _ _ he;omega
  |none=>rfl
 have hL:Later E w E' w':=⟨hη,hF,λb h=>(hF' b h).imp id λh=>.inl h.1,λb i h=>by
  replace h:(if b<w.heap.size then E.O b else(match Ec.O b with|some id=>if keep id then some id else none|none=>none))=some i:=h
  split at h
  .exact .inl h
  .exact .inr (by omega),λ_ h=>h,λ_ h=>.inl h,rfl,hx.weaken λ_ _ _=>trivial,.of_same λb hb=>hx.same b trivial hb,λi ver x e _ _ v=>by
   show(match E.η i v with|some x=>some x|none=>if keep i then Ec.η i v else none)=E.η i v
   cases hv:E.η i v with
   |some y=>rfl
   |none=>
    simp only
    split
    .cases hc:Ec.η i v with
     |none=>rfl
     |some y=>have h1:=hdom i v (by rw[hc];simp);have h2:=hS.dom _ _ _ e;omega
    .rfl⟩
 refine⟨E',⟨⟨λi o ho=>?_,λi v x h=>?_,λb i h=>?_,λb h=>?_,hL.gl hS⟩,hL,hnext,λi v h=>?_⟩,rfl,rfl,hηc,hη⟩
 .simp only at ho
  split at ho
  .rename_i hki
   have hold:=hSc.obj i o ho
   obtain⟨k1,k2,k3⟩:=hk i o ho hki.1 E' rfl hηc hold
   cases o with
   |row cs ver fr=>
    obtain⟨blk,base,arr,t,h1,h2,h3,h4,h5,h6⟩:=hold
    have hin:=hdom i ver (by rw[h1];simp)
    refine⟨blk,base,arr,t,hηc _ _ _ h1 hki.1,λv' hv'=>?_,h3,h4,λk a ha=>?_,?_⟩
    .show(match E.η i v' with|some x=>_|none=>_)=_
     rw[hη0 i v' hin];simp[h2 v' hv']
    .obtain⟨v,hv,hV,ho1⟩:=h5 k a ha
     exact⟨v,hv,k1 cs ver fr rfl a (xd1 ha) v hV,ho1⟩
    .cases fr with
     |true=>simp at h6 ⊢;exact k3 cs ver rfl _ h6
     |false=>
      simp at h6 ⊢
      show(if blk<w.heap.size then E.O blk else(match Ec.O blk with|some id=>_|none=>_))=_
      rw[xc1 (by have:=hOc _ _ h6;omega),h6]
      simp[hki.1]
   |bld t e l=>
    obtain⟨blk,p,v,h1,h2,h3,h4,h5,h6,h7,h8⟩:=hold
    have hin:=hdom i 0 (by rw[h1];simp)
    have hO:∀b,Ec.O b=some i->(if b<w.heap.size then E.O b else(match Ec.O b with|some id=>if keep id then some id else none|none=>none))=some i:=λb hb=>by
     rw[xc1 (by have:=hOc _ _ hb;omega),hb]
     simp[hki.1]
    refine⟨blk,p,v,hηc _ _ _ h1 hki.1,λv' hv'=>?_,h3,h4,h5,h6,hO _ h7,λg hg=>hO _ (h8 g hg)⟩
    show(match E.η i v' with|some x=>_|none=>_)=_
    rw[hη0 i v' hin];simp[h2 v' hv']
   |lp d=>
    obtain⟨blk,r,h1,h2,h3,h4,h5⟩:=hold
    have hin:=hdom i 0 (by rw[h1];simp)
    refine⟨blk,r,hηc _ _ _ h1 hki.1,λv' hv'=>?_,h3,?_,h5⟩
    .show(match E.η i v' with|some x=>_|none=>_)=_
     rw[hη0 i v' hin];simp[h2 v' hv']
    .show(if blk<w.heap.size then E.O blk else(match Ec.O blk with|some id=>_|none=>_))=_
     rw[xc1 (by have:=hOc _ _ h4;omega),h4]
     simp[hki.1]
   |map es=>
    obtain⟨blk,ents,clock,h1,h2,h3,h4,h5,h6⟩:=hold
    have hin:=hdom i 0 (by rw[h1];simp)
    refine⟨blk,ents,clock,hηc _ _ _ h1 hki.1,λv' hv'=>?_,h3,h4,λk e m he hm=>⟨(h5 k e m he hm).1,k2 es rfl e (xd1 he) _ (h5 k e m he hm).2⟩,?_⟩
    .show(match E.η i v' with|some x=>_|none=>_)=_
     rw[hη0 i v' hin];simp[h2 v' hv']
    .show(if blk<w.heap.size then E.O blk else(match Ec.O blk with|some id=>_|none=>_))=_
     rw[xc1 (by have:=hOc _ _ h6;omega),h6]
     simp[hki.1]
  .have hold:=hS.obj i o ho
   have hni:∀v',i.1<st.next->E.η i v'=none->E'.η i v'=none:=λv' hi h=>by
    show(match E.η i v' with|some x=>_|none=>_)=_
    rw[h]
    simp only
    split
    .cases hc:Ec.η i v' with
     |none=>rfl
     |some y=>have:=hdom i v' (by rw[hc];simp);omega
    .rfl
   cases o with
   |row cs ver fr=>
    obtain⟨blk,base,arr,t,h1,h2,h3,h4,h5,h6⟩:=hold
    have hb:blk<w.heap.size:=xM (uX h3)
    refine⟨blk,base,arr,t,hη _ _ _ h1,λv' hv'=>hni v' (hS.dom _ _ _ h1) (h2 v' hv'),by rw[hx.same _ trivial hb];exact h3,h4,λk a ha=>?_,?_⟩
    .obtain⟨v,hv,hV,ho1⟩:=h5 k a ha
     exact⟨v,hv,hV.later hL,ho1⟩
    .cases fr with
     |true=>simp at h6 ⊢;exact hF _ h6
     |false=>
      simp at h6 ⊢
      show(if blk<w.heap.size then E.O blk else _)=_
      rw[xc2 hb];exact h6
   |bld t e l=>
    obtain⟨blk,p,v,h1,h2,h3,h4,h5,h6,h7,h8⟩:=hold
    have hO:∀b,E.O b=some i->(if b<w.heap.size then E.O b else(match Ec.O b with|some id=>if keep id then some id else none|none=>none))=some i:=λb hb=>by
     rw[xc2 (hS.own _ _ hb).2.2];exact hb
    exact⟨blk,p,v,hη _ _ _ h1,λv' hv'=>hni v' (hS.dom _ _ _ h1) (h2 v' hv'),by rw[hx.same _ trivial (hS.own _ _ h7).2.2];exact h3,h4,h5.keep λg hg=>hx.same _ trivial (hS.own _ _ (h8 g hg)).2.2,h6,hO _ h7,λg hg=>hO _ (h8 g hg)⟩
   |lp d=>
    obtain⟨blk,r,h1,h2,h3,h4,h5⟩:=hold
    have hb:blk<w.heap.size:=(hS.own _ _ h4).2.2
    refine⟨blk,r,hη _ _ _ h1,λv' hv'=>hni v' (hS.dom _ _ _ h1) (h2 v' hv'),by rw[hx.same _ trivial hb];exact h3,?_,h5⟩
    show(if blk<w.heap.size then E.O blk else _)=_
    rw[xc2 hb];exact h4
   |map es=>
    obtain⟨blk,ents,clock,h1,h2,h3,h4,h5,h6⟩:=hold
    have hb:blk<w.heap.size:=(hS.own _ _ h6).2.2
    refine⟨blk,ents,clock,hη _ _ _ h1,λv' hv'=>hni v' (hS.dom _ _ _ h1) (h2 v' hv'),by rw[hx.same _ trivial hb];exact h3,h4,λk e m he hm=>⟨(h5 k e m he hm).1,(h5 k e m he hm).2.later hL⟩,?_⟩
    show(if blk<w.heap.size then E.O blk else _)=_
    rw[xc2 hb];exact h6
 .replace h:(match E.η i v with|some x=>some x|none=>if keep i then Ec.η i v else none)=some x:=h
  split at h
  .rename_i y hy;exact xcq (hS.dom _ _ _ hy) hnext
  .split at h
   .exact hSc.dom _ _ _ h
   .cases h
 .replace h:(if b<w.heap.size then E.O b else(match Ec.O b with|some id=>if keep id then some id else none|none=>none))=some i:=h
  split at h
  .rename_i hb
   obtain⟨h1,h2,h3⟩:=hS.own b i h
   refine⟨λhf=>?_,h2,xcq h3 hx.size⟩
   rcases hF' b hf with hf|hf
   .exact h1 hf
   .omega
  .rename_i hb
   split at h
   .rename_i id hid
    obtain⟨h1,h2,h3⟩:=hSc.own b id hid
    refine⟨λhf=>hFc b hf id hid,λhf=>?_,h3⟩
    have:=hS.fin b (.inr hf);omega
   .cases h
 .rcases h with h|h
  .rcases hF' b h with hf|hf
   .exact xcq (hS.fin b (.inl hf)) hx.size
   .exact hf.2
  .exact xcq (hS.fin b (.inr h)) hx.size
 .by_cases he:E.η i v=none
  .right
   replace h:(match E.η i v with|some x=>some x|none=>if keep i then Ec.η i v else none)≠none:=h
   rw[he]at h
   simp only at h
   split at h
   .exact hdom i v h
   .exact absurd rfl h
  .exact .inl ⟨v,he⟩
theorem P3{F F':Nat->Prop}{w:World}{η η':Eta}{ζ:List Nat}{a:AV}{v:Value}(h:V F w η [] a v)(hF:∀b,F b->F' b)(hη:∀i x y,η i x=some y->η' i x=some y):V F' w η' ζ a v:=
 V.mono hF (Ext.refl _ _) h hη (λ_ _ h=>by simp at h)
theorem mode1(hZ:ZOK P E)(hc:tO P call)(hS:Sim E w st)(hA:ArgsV E w args vs){stc:St}(hl:args.all clean=true)(hcall:call [] f args {objs:=λ_=>none,next:=st.next}=some (r,stc)) :
 wY P E w st f vs r {objs:=λi=>if st.next<=i.1 then stc.objs i else st.objs i,next:=stc.next}:=by
 obtain⟨-,g2⟩:=hc [] f args _ r stc hcall (zU E.F E.ζ.2 w) w vs (C1 (λb h=>hS.fin b (.inl h)) st.next hS.gl) ⟨hA.1,λi a v ha hv=>clean_V (hA.2 i a v ha hv) (xc8.1 hl a (xd1 ha))⟩ (C2 hZ);intro cs;obtain⟨Ec,w',u,s1,s4,s5⟩:=g2 cs;have hζ:Ec.ζ.1=[]:=by rw[s5.later.ζ];rfl
 obtain⟨E',h1,h2,h3,h4,h5⟩:=adopt (F':=Ec.F) hS (C3 s5.later) s5.sim (λid ver h=>by
  rcases s5.dom id ver h with ⟨v0,h0⟩|h0
  .exact absurd rfl h0
  .exact h0) s5.next (λb id h=>by
  rcases s5.later.newO b id h with h'|h'
  .cases h'
  .exact h') (λb h=>s5.later.F b h) (λb h=>by
  rcases s5.later.newF b h with h2|h2|h2
  .exact .inl h2
  .exact .inr ⟨h2,s5.sim.fin b (.inl h)⟩
  .exact absurd rfl h2) (λ_=>true) (λi o ho _ E' hF hη _=>⟨λcs v fr _ a _ u hu=>by
   unfold Env.V at hu ⊢
   rw[hζ]at hu
   rw[hF]
   exact P3 hu (λ_ h=>h) λi x y h=>hη i x y h rfl,λes _ p _ u hu=>by
   unfold Env.V at hu ⊢
   rw[hζ]at hu
   rw[hF]
   exact P3 hu (λ_ h=>h) λi x y h=>hη i x y h rfl,λ_ _ _ _ h=>h⟩) (λb hf id ho=>(s5.sim.own b id ho).1 hf)
 have e:(λi=>if(λ_=>true) i=true/\(stc.objs i).isSome=true then stc.objs i else st.objs i)=λi:Id=>if st.next<=i.1 then stc.objs i else st.objs i:=by
  funext i;cases ho:stc.objs i with
  |none=>
   simp only[Option.isSome_none,xcv,and_false,xck];split
   .rename_i hi;cases ho':st.objs i with
    |none=>rfl
    |some o=>have:=hS.old ho';omega
   .rfl
  |some o=>
   have h0:st.next<=i.1:=by
    obtain⟨ver,hv⟩:=(s5.sim.obj i o ho).eta;rcases s5.dom i ver hv with ⟨v0,h0⟩|h0
    .exact absurd rfl h0
    .exact h0
   simp[h0]
 rw[e]at h1;refine⟨E',w',u,s1,?_,h1⟩;unfold Env.V at s4 ⊢;rw[hζ]at s4;rw[h2];exact P3 s4 (λ_ h=>h) λi x y h=>h4 i x y h rfl
theorem mode2(hc:tO P call)(hS:Sim E w st)(hA:ArgsV E w args vs)(hH:HsOK P hs E w)(hcall:call hs f args st=some (r,st')):wY P E w st f vs r st':=
 (hc hs f args st r st' hcall E w vs hS hA hH).2
def n8(E:Env)(p:Id->Bool):Env:={E with O:=λb=>match E.O b with|some id=>if p id=true then none else some id|none=>none,X:=λb=>E.X b\/∃id,E.O b=some id/\p id=true}
def zV(E E':Env)(p:Id->Bool):Env:={E' with O:=λb=>match E'.O b with|some i=>some i|none=>match E.O b with|some id=>if p id=true then some id else none|none=>none,X:=λb=>E'.X b/\¬∃id,E.O b=some id/\p id=true}
theorem H9{p:Id->Bool}{b:Nat}{id:Id}:(n8 E p).O b=some id↔E.O b=some id/\p id=false:=by
 show(match E.O b with|some id=>if p id=true then none else some id|none=>none)=some id↔_;cases h:E.O b with
 |none=>simp
 |some i=>
  simp only
  cases hp:p i with
  |true=>simp only[xcm];constructor<;>intro h2;cases h2;obtain⟨e,h3⟩:=h2;cases e;rw[hp]at h3;cases h3
  |false=>simp only[xcv,xck,xc4];exact⟨λe=>⟨e,by rw[<-e];exact hp⟩,λe=>e.1⟩
theorem aside_ob{p:Id->Bool}{i:Id}{o:Ob}(hi:p i=false)(h:ObOK E w i o):ObOK (n8 E p) w i o:=by
 have hO:∀b,E.O b=some i->(n8 E p).O b=some i:=λb hb=>H9.2 ⟨hb,hi⟩
 cases o with
 |row cs ver fr=>
  obtain⟨blk,base,arr,t,h1,h2,h3,h4,h5,h6⟩:=h;refine⟨blk,base,arr,t,h1,h2,h3,h4,h5,?_⟩;cases fr with
  |true=>exact h6
  |false=>simp at h6 ⊢;exact hO _ h6
 |bld t e l=>obtain⟨blk,q,v,h1,h2,h3,h4,h5,h6,h7,h8⟩:=h;exact⟨blk,q,v,h1,h2,h3,h4,h5,h6,hO _ h7,λg hg=>hO _ (h8 g hg)⟩
 |lp d=>obtain⟨blk,r,h1,h2,h3,h4,h5⟩:=h;exact⟨blk,r,h1,h2,h3,hO _ h4,h5⟩
 |map es=>obtain⟨blk,ents,clock,h1,h2,h3,h4,h5,h6⟩:=h;exact⟨blk,ents,clock,h1,h2,h3,h4,h5,hO _ h6⟩
theorem aside_sim{p:Id->Bool}(hS:Sim E w st):Sim (n8 E p) w {st with objs:=λid=>if p id=true then none else st.objs id}:=by
 refine⟨λi o ho=>?_,hS.dom,λb i h=>?_,λb h=>?_,hS.gl⟩
 .simp only at ho;split at ho
  .cases ho
  .rename_i hi;exact aside_ob (by simpa using hi) (hS.obj i o ho)
 .obtain⟨h1,h2⟩:=H9.1 h;obtain⟨g1,g2,g3⟩:=hS.own b i h1;refine⟨g1,λhx=>?_,g3⟩;rcases hx with hx|⟨id,hx,hp⟩
  .exact g2 hx
  .rw[h1]at hx;cases hx;rw[h2]at hp;cases hp
 .rcases h with h|h|⟨id,h,_⟩
  .exact hS.fin b (.inl h)
  .exact hS.fin b (.inr h)
  .exact(hS.own b id h).2.2
theorem x8q{E':Env}{w':World}{stc:St}{p:Id->Bool}(hS:Sim E w st)(h:After (n8 E p) w {st with objs:=λid=>if p id=true then none else st.objs id} E' w' stc) :
 After E w st (zV E E' p) w' {stc with objs:=λid=>if p id=true then st.objs id else stc.objs id}:=by
 have hl:=h.later;have hOE:∀b id,E'.O b=some id->(zV E E' p).O b=some id:=λb id e=>by show(match E'.O b with|some i=>some i|none=>_)=some id;rw[e]
 have hF0:∀b id,E.O b=some id->p id=true->¬E'.F b:=λb id ho hp hf=>by
  have:=hS.own b id ho;rcases hl.newF b hf with g|g|g
  .exact this.1 g
  .omega
  .apply g;show(match E.O b with|some id=>if p id=true then none else some id|none=>none)=none;rw[ho];simp[hp]
 have hO0:∀b id,E.O b=some id->p id=true->E'.O b=none:=λb id ho hp=>by
  cases e:E'.O b with
  |none=>rfl
  |some j=>
   rcases hl.newO b j e with g|g
   .obtain⟨g1,g2⟩:=H9.1 g;rw[ho]at g1;cases g1;rw[hp]at g2;cases g2
   .have:=(hS.own b id ho).2.2;omega
 have hOB:∀b id,E.O b=some id->p id=true->(zV E E' p).O b=some id:=λb id ho hp=>by show(match E'.O b with|some i=>some i|none=>match E.O b with|some id=>if p id=true then some id else none|none=>none)=some id;rw[hO0 b id ho hp,ho];simp[hp]
 have hOI:∀b id,(zV E E' p).O b=some id->E'.O b=some id\/(E.O b=some id/\p id=true):=λb id e=>by
  replace e:(match E'.O b with|some i=>some i|none=>match E.O b with|some id=>if p id=true then some id else none|none=>none)=some id:=e
  cases e1:E'.O b with
  |some j=>rw[e1]at e;exact .inl e
  |none=>
   rw[e1]at e;cases e2:E.O b with
   |none=>rw[e2]at e;cases e
   |some j=>
    rw[e2]at e;simp only at e;split at e
    .rename_i hp;cases e;exact .inr ⟨rfl,hp⟩
    .cases e
 have hGX:∀b,E.G b->(n8 E p).G b:=λb g=>g.imp id .inl
 have hL:Later E w (zV E E' p) w':=by
  refine⟨hl.η,hl.F,λb e=>?_,λb i e=>?_,λb e=>⟨hl.X b (.inl e),?_⟩,λb e=>?_,hl.ζ,hl.ext.weaken λb _ g=>hGX b g,hl.lsh,λid ver x e ht g=>hl.lock id ver x e ht (hGX _ g)⟩
  .rcases hl.newF b e with g|g|g
   .exact .inl g
   .exact .inr (.inl g)
   .refine .inr (.inr λe0=>g ?_);show(match E.O b with|some id=>if p id=true then none else some id|none=>none)=none;rw[e0]
  .rcases hOI b i e with g|g
   .rcases hl.newO b i g with g2|g2
    .exact .inl (H9.1 g2).1
    .exact .inr g2
   .exact .inl g.1
  .rintro⟨id,h1,_⟩;exact(hS.own b id h1).2.1 e
  .rcases hl.newX b e.1 with (g|g)|g
   .exact .inl g
   .exact absurd g e.2
   .exact .inr g
 refine⟨⟨λi o ho=>?_,h.sim.dom,λb i e=>?_,λb e=>?_,hL.gl hS⟩,hL,h.next,h.dom⟩
 .simp only at ho;split at ho
  .rename_i hi;have hold:=hS.obj i o ho;have keep:∀b,E.O b=some i->w'.heap[b]?=w.heap[b]?:=λb hb=>hl.ext.same b (.inr (.inr ⟨i,hb,hi⟩)) (hS.own b i hb).2.2
   have top:∀ver x,E.η i ver=some x->(∀v,ver<v->E.η i v=none)->(E.F x.1\/E.O x.1=some i)->∀v,E'.η i v=E.η i v:=λver x e ht g=>
    hl.lock i ver x e ht (by
     rcases g with g|g
     .exact .inl g
     .exact .inr (.inr ⟨i,g,hi⟩))
   have hη':∀v x,E.η i v=some x->(zV E E' p).η i v=some x:=λv x e=>hl.η _ _ _ e
   cases o with
   |row cs ver fr=>
    obtain⟨blk,base,arr,t,h1,h2,h3,h4,h5,h6⟩:=hold
    have ht:=top ver _ h1 h2 (by
     cases fr with
     |true=>simp at h6;exact .inl h6
     |false=>simp at h6;exact .inr h6)
    have hb:w'.heap[blk]?=w.heap[blk]?:=by
     cases fr with
     |true=>simp at h6;exact hl.ext.same blk (.inl h6) (hS.fin blk (.inl h6))
     |false=>simp at h6;exact keep blk h6
    refine⟨blk,base,arr,t,hη' _ _ h1,λv hv=>(ht v).trans (h2 v hv),by rw[hb];exact h3,h4,λk a ha=>?_,?_⟩
    .obtain⟨v,hv,hV,ho1⟩:=h5 k a ha;exact⟨v,hv,hV.later hL,ho1⟩
    .cases fr with
     |true=>simp at h6 ⊢;exact hl.F _ h6
     |false=>simp at h6 ⊢;exact hOB _ _ h6 hi
   |bld t e l=>obtain⟨blk,q,v,h1,h2,h3,h4,h5,h6,h7,h8⟩:=hold;have ht:=top 0 _ h1 h2 (.inr h7);exact⟨blk,q,v,hη' _ _ h1,λv hv=>(ht v).trans (h2 v hv),by rw[keep _ h7];exact h3,h4,h5.keep λg hg=>keep _ (h8 g hg),h6,hOB _ _ h7 hi,λg hg=>hOB _ _ (h8 g hg) hi⟩
   |lp d=>obtain⟨blk,r,h1,h2,h3,h4,h5⟩:=hold;have ht:=top 0 _ h1 h2 (.inr h4);exact⟨blk,r,hη' _ _ h1,λv hv=>(ht v).trans (h2 v hv),by rw[keep _ h4];exact h3,hOB _ _ h4 hi,h5⟩
   |map es=>obtain⟨blk,ents,clock,h1,h2,h3,h4,h5,h6⟩:=hold;have ht:=top 0 _ h1 h2 (.inr h6);exact⟨blk,ents,clock,hη' _ _ h1,λv hv=>(ht v).trans (h2 v hv),by rw[keep _ h6];exact h3,h4,λk e m he hm=>⟨(h5 k e m he hm).1,(h5 k e m he hm).2.later hL⟩,hOB _ _ h6 hi⟩
  .rename_i hi;have hold:=h.sim.obj i o ho;have hO:∀b,E'.O b=some i->(zV E E' p).O b=some i:=λb hb=>hOE b i hb
   cases o with
   |row cs ver fr=>
    obtain⟨blk,base,arr,t,h1,h2,h3,h4,h5,h6⟩:=hold;refine⟨blk,base,arr,t,h1,h2,h3,h4,h5,?_⟩;cases fr with
    |true=>exact h6
    |false=>simp at h6 ⊢;exact hO _ h6
   |bld t e l=>obtain⟨blk,q,v,h1,h2,h3,h4,h5,h6,h7,h8⟩:=hold;exact⟨blk,q,v,h1,h2,h3,h4,h5,h6,hO _ h7,λg hg=>hO _ (h8 g hg)⟩
   |lp d=>obtain⟨blk,r,h1,h2,h3,h4,h5⟩:=hold;exact⟨blk,r,h1,h2,h3,hO _ h4,h5⟩
   |map es=>obtain⟨blk,ents,clock,h1,h2,h3,h4,h5,h6⟩:=hold;exact⟨blk,ents,clock,h1,h2,h3,h4,h5,hO _ h6⟩
 .rcases hOI b i e with g|⟨g,hp⟩
  .obtain⟨g1,g2,g3⟩:=h.sim.own b i g;exact⟨g1,λhx=>g2 hx.1,g3⟩
  .exact⟨hF0 b i g hp,λhx=>hx.2 ⟨i,g,hp⟩,xcq (hS.own b i g).2.2 hl.ext.size⟩
 .rcases e with e|e
  .exact h.sim.fin b (.inl e)
  .exact h.sim.fin b (.inr e.1)
theorem mode9(hZ:ZOK P E)(hc:tO P call)(hS:Sim E w st)(hA:ArgsV E w args vs){u fc:Nat}{stc:St}(hcall:call [] f args (yL u fc st)=some (r,stc)):wY P E w st f vs r (G8 u fc st stc):=by obtain⟨-,g2⟩:=hc [] f args _ r stc hcall (n8 E (wT u fc)) w vs (aside_sim hS) hA hZ;intro cs;obtain⟨E',w',v,s1,s4,s5⟩:=g2 cs;exact⟨zV E E' (wT u fc),w',v,s1,s4,x8q hS s5⟩
def okRef:AV->Bool
 | .sc _ | .sref ..=>true
 |_=>false
theorem refs_V{F F':Nat->Prop}{w:World}{η η':Eta}{ζ ζ':List Nat}{r:AV}{u:Value}{objs:Id->Option Ob}(hp:B6 r=true)(h:V F w η ζ r u)(hη:∀i∈reach objs qN r,∀x y,η i x=some y->η' i x=some y):V F' w η' ζ' r u:=by
 have one:∀{a:AV} {v:Value} (k:Nat),okRef a=true->V F w η ζ a v->(∀i∈reach objs (k+1) a,∀x y,η i x=some y->η' i x=some y)->V F' w η' ζ' a v:=by
  intro a v k ha hv hi;cases hv with
  |sc _=>exact .sc _
  |sref id ver off n z full blk base len a cap hη1 h2 h3 h4 h5 h6=>refine .sref id ver off n z full blk base len a cap (hi id ?_ _ _ hη1) h2 h3 h4 h5 h6;simp only[reach];split<;>simp
  |_=>simp[okRef]at ha
 cases h with
 |sc _=>exact .sc _
 |agg cs vs hl h=>exact .agg cs vs hl λi a v ha hv=>one 4 (by
  have:=xc8.1 hp a (xd1 ha);cases a<;>simp at this<;>rfl) (h i a v ha hv) (λj hj=>hη j (by simp only[qN,reach];exact xdc.2 ⟨a,xd1 ha,hj⟩))
 |tup cs vs hl h=>exact .tup cs vs hl λi a v ha hv=>one 4 (by
  have:=xc8.1 hp a (xd1 ha);cases a<;>simp at this<;>rfl) (h i a v ha hv) (λj hj=>hη j (by simp only[qN,reach];exact xdc.2 ⟨a,xd1 ha,hj⟩))
 |sref id ver off n z full blk base len a cap h1 h2 h3 h4 h5 h6=>exact one 5 rfl (.sref id ver off n z full blk base len a cap h1 h2 h3 h4 h5 h6) hη
 |_=>simp[B6]at hp
theorem mode4(hZ:ZOK P E)(hc:tO P call)(hS:Sim E w st)(hA:ArgsV E w args vs){l:List AV}{stc:St}(hl:args.mapM (frz st.objs qN)=some l)(hcall:call [] f l {objs:=λ_=>none,next:=st.next}=some (r,stc))(hp:B6 r=true)(hk:∀i∈reach stc.objs qN r,∃cs v,stc.objs i=some (.row cs v false)/\cs.all y5=true) :
 wY P E w st f vs r {objs:=λi=>if i∈reach stc.objs qN r then stc.objs i else st.objs i,next:=stc.next}:=by
 obtain⟨-,g2⟩:=hc [] f l _ r stc hcall (zU (λb=>b<w.heap.size) E.ζ.2 w) w vs (C1 (λ_ h=>h) st.next λw' h=>hS.gl w' (h.weaken λb _ g=>hS.fin b (.inl g))) (P2 hS (λb h=>hS.fin b (.inl h)) hl hA λid _ b hb=>(hS.own b id hb).2.2) (C2 hZ);intro cs;obtain⟨Ec,w',u,s1,s4,s5⟩:=g2 cs
 obtain⟨E',h1,h2,h3,h4,h5⟩:=adopt (F':=E.F) hS (C3 s5.later) s5.sim (λid ver h=>by
  rcases s5.dom id ver h with ⟨v0,h0⟩|h0
  .exact absurd rfl h0
  .exact h0) s5.next (λb id h=>by
  rcases s5.later.newO b id h with h'|h'
  .cases h'
  .exact h') (λb h=>h) (λb h=>.inl h) (λi=>decide (i∈reach stc.objs qN r)) (λi o ho hi E' hF hη _=>by
   obtain⟨cs,v,ho',hall⟩:=hk i (by simpa using hi)
   rw[ho]at ho';cases ho'
   refine⟨λcs v fr e a ha u hu=>?_,λes e=>(by cases e),λcs v e=>(by cases e)⟩
   cases e
   have:=xc8.1 hall a ha
   cases a<;>simp[y5]at this
   unfold Env.V at hu ⊢
   rw[uK hu];exact .sc _) (λb hf id ho=>(s5.sim.own b id ho).2.1 (s5.later.X b (hS.fin b (.inl hf))))
 refine⟨E',w',u,s1,?_,?_⟩
 .exact refs_V hp s4 λi hi x y h=>h4 i x y h (by simpa using hi)
 .have:(λi=>if decide (i∈reach stc.objs qN r)=true/\(stc.objs i).isSome=true then stc.objs i else st.objs i)=λi=>if i∈reach stc.objs qN r then stc.objs i else st.objs i:=by
   funext i;by_cases hi:i∈reach stc.objs qN r
   .obtain⟨cs,v,ho',_⟩:=hk i hi;simp[hi,ho']
   .simp[hi]
  rwa[this]at h1
end
section
variable{P:Program}{call:Hs->FuncId->List AV->St->Option (AV×St)}{hs:Hs}{E:Env}{w:World}{st st':St}
theorem I0{f:FuncId}{args:Array Value}(h:uM P f):(callFunc f args).run P w=.ok (.enter f args) w:=by obtain⟨fn,h1,h2,h3⟩:=h;have h2':fn.body≠none:=(by intro e;simp[e]at h2);simp[callFunc,h1,h2',h3]
def Goes(P:Program)(E:Env)(w:World)(st:St)(blk:Nat)(f:FuncId)(tmps:Array Value)(assign body:Code)(bb:Bool)(st':St):Prop:=
 ∀(fr:Frame) (cs:List Frame),∃E' w',Steps P (lone (Frame.round blk f tmps assign body .normal) (fr::cs) w) (lone (fr.finish (.bool bb)) cs w')/\After E w st E' w' st'
theorem hs_at{id:Id}{h:List AV->St->Option St}:∀{hs:Hs},HsOK P hs E w->vN hs id=some h->∀{args:List AV} {vs:Array Value},Sim E w st->ArgsV E w args vs->h args st=some st' ->
 ∃blk f tmps assign body,E.η id 0=some (blk,0,0)/\(Instr.yield blk vs).run P w=.ok (.round blk f tmps assign body) w/\Goes P E w st blk f tmps assign body (vD st'.objs id) st'
 |[],_,h,_,_,_,_,_=>by simp[vN]at h
 |(i,h0)::rest,⟨h1,blk,r,h2,h3,h4,h5,h7,h6⟩,hat,args,vs,hS,hA,hh=>by
  simp only[vN]at hat;split at hat
  .rename_i hi;cases hat;subst hi;obtain⟨f,tmps,assign,body,g1,g2⟩:=h6 E w st args vs st' (.refl _ _) hS h1 h3 hA hh;exact⟨blk,f,tmps,assign,body,h2,g1,g2⟩
  .exact hs_at h1 hat hS hA hh
theorem x53(hc:tO P call)(hS:Sim E w st)(hH:HsOK P hs E w){mode:Nat}{fv:AV}{args:List AV}{r:AV}{fvv:Value}{vs:Array Value}(hf:E.V w fv fvv)(hA:ArgsV E w args vs)(h:rZ call hs mode fv args st=some (r,st')) :
 ∃d,(Deferred.ofValue fvv vs).run P w=.ok d w /\
  ((∃f vs',(invoke d.target d.args).run P w=.ok (.enter f vs') w/\uM P f/\wY P E w st f vs' r st') \/
   (∃blk f tmps assign body bb,(invoke d.target d.args).run P w=.ok (.round blk f tmps assign body) w/\r=.sc (.bool bb)/\Goes P E w st blk f tmps assign body bb st') \/
   (∃u E' w',(invoke d.target d.args).run P w=.ok (.value u) w'/\E'.V w' r u/\After E w st E' w' st')):=by
 cases fv with
 |clo f caps=>
  obtain⟨cvs,rfl,hl,hcv⟩:=l9 hf
  have hA':ArgsV E w (args++caps) (vs++cvs):=hA.append ⟨hl,λi a v ha hv=>by
   obtain⟨v',hv',hV⟩:=hcv i a ha
   rw[hv]at hv';cases hv';exact hV⟩
  have fin:wY P E w st f (vs++cvs) r st'->∃d,(Deferred.ofValue (.func (.func f) #[] cvs) vs).run P w=.ok d w /\
   ((∃f vs',(invoke d.target d.args).run P w=.ok (.enter f vs') w/\uM P f/\wY P E w st f vs' r st') \/
    (∃blk f tmps assign body bb,(invoke d.target d.args).run P w=.ok (.round blk f tmps assign body) w/\r=.sc (.bool bb)/\Goes P E w st blk f tmps assign body bb st') \/
    (∃u E' w',(invoke d.target d.args).run P w=.ok (.value u) w'/\E'.V w' r u/\After E w st E' w' st')):=λg=>by
   refine⟨{target:=.fn (.func f) cvs,args:=#[]++vs},by simp[Deferred.ofValue],?_⟩;by_cases hb:uM P f
   .exact .inl ⟨f,vs++cvs,by simp[invoke,I0 hb],hb,g⟩
   .obtain⟨E',w',u,hA,h4,h5⟩:=g [];rcases hA with ⟨hb',-⟩|⟨-,hx⟩
    .exact absurd hb' hb
    .exact .inr (.inr ⟨u,E',w',by simpa[invoke]using hx,h4,h5⟩)
  apply fin;simp only[rZ]at h;split at h
  .split at h
   .rename_i l hl';split at h
    .rename_i r0 stc hcall;simp only[xc5,xc3]at h;obtain⟨r',hr',rfl,rfl⟩:=h;exact mode0 hH.z hc hS hA' hl' hcall hr'
    .cases h
   .cases h
  .split at h
   .rename_i l hl';split at h
    .rename_i r0 stc hcall;split at h
     .rename_i hp;simp only[xc4,xc3]at h;obtain⟨rfl,rfl⟩:=h;exact mode3 hH.z hc hS hA' hl' hcall hp
     .cases h
    .cases h
   .cases h
  .split at h
   .rename_i l hl';split at h
    .rename_i r0 stc hcall;split at h
     .rename_i hp;simp only[xc4,xc3]at h;obtain⟨rfl,rfl⟩:=h;simp only[xc6]at hp;refine mode4 hH.z hc hS hA' hl' hcall hp.1 λi hi=>?_
      have:=xc8.1 hp.2 i hi;simp only[xc6]at this;replace this:=this.2
      split at this
      .rename_i cs v e;exact⟨cs,v,e,this⟩
      .cases this
     .cases h
    .cases h
   .cases h
  .split at h
   .rename_i hcl;split at h
    .rename_i r0 stc hcall;simp only[xc4,xc3]at h;obtain⟨rfl,rfl⟩:=h;exact mode1 hH.z hc hS hA' hcl hcall
    .cases h
   .cases h
  .exact mode2 hc hS hA' hH h
 |yld id=>
  obtain⟨blk,hb,rfl⟩:=V_yld hf;simp only[rZ]at h;split at h
  .rename_i g hg;simp only[xc5,xc3]at h;obtain⟨st1,hh,rfl,rfl⟩:=h;obtain⟨blk',f,tmps,assign,body,g1,g2,g3⟩:=hs_at hH hg hS hA hh;rw[hb]at g1;cases g1;exact⟨{target:=.fn (.yield blk) #[],args:=#[]++vs},by simp[Deferred.ofValue],.inr (.inl ⟨blk,f,tmps,assign,body,_,by simpa[invoke]using g2,rfl,g3⟩)⟩
  .cases h
 |_=>simp[rZ]at h
end
section
variable{P:Program}{call:Hs->FuncId->List AV->St->Option (AV×St)}{hs:Hs}{E:Env}{w:World}{st st':St}
theorem inv9_ok(hc:tO P call)(hS:Sim E w st)(hH:HsOK P hs E w){u0 fc mode:Nat}{fv:AV}{args:List AV}{r:AV}{fvv:Value}{vs:Array Value}(hf:E.V w fv fvv)(hA:ArgsV E w args vs)(h:tZ call u0 fc hs mode fv args st=some (r,st')) :
 ∃d,(Deferred.ofValue fvv vs).run P w=.ok d w /\
  ((∃f vs',(invoke d.target d.args).run P w=.ok (.enter f vs') w/\uM P f/\wY P E w st f vs' r st') \/
   (∃blk f tmps assign body bb,(invoke d.target d.args).run P w=.ok (.round blk f tmps assign body) w/\r=.sc (.bool bb)/\Goes P E w st blk f tmps assign body bb st') \/
   (∃u E' w',(invoke d.target d.args).run P w=.ok (.value u) w'/\E'.V w' r u/\After E w st E' w' st')):=by
 unfold tZ at h;split at h
 .split at h
  .rename_i f caps;obtain⟨cvs,rfl,hl,hcv⟩:=l9 hf
   have hA':ArgsV E w (args++caps) (vs++cvs):=hA.append ⟨hl,λi a v ha hv=>by
    obtain⟨v',hv',hV⟩:=hcv i a ha
    rw[hv]at hv';cases hv';exact hV⟩
   split at h
   .rename_i r0 stc hcall;simp only[xc4,xc3]at h;obtain⟨rfl,rfl⟩:=h;have g:=mode9 hH.z hc hS hA' hcall;refine⟨{target:=.fn (.func f) cvs,args:=#[]++vs},by simp[Deferred.ofValue],?_⟩;by_cases hb:uM P f
    .exact .inl ⟨f,vs++cvs,by simp[invoke,I0 hb],hb,g⟩
    .obtain⟨E',w',u,hA,h4,h5⟩:=g [];rcases hA with ⟨hb',-⟩|⟨-,hx⟩
     .exact absurd hb' hb
     .exact .inr (.inr ⟨u,E',w',by simpa[invoke]using hx,h4,h5⟩)
   .cases h
  .cases h
 .exact x53 hc hS hH hf hA h
end
structure Tm (E:Env) (w:World) (nt:Nat) (sl:Nat->AV) (tmps:Array Value):Prop where
 size:tmps.size=nt
 val:∀t,E.V w (sl t) (tmps.getD t undef)
theorem Tm.past{E E':Env}{w w':World}{nt:Nat}{sl:Nat->AV}{tmps:Array Value}(h:Tm E w nt sl tmps)(l:Past E w E' w'):Tm E' w' nt sl tmps:=⟨h.size,λt=>(h.val t).past l⟩
theorem Tm.ev{E:Env}{w:World}{nt:Nat}{sl:Nat->AV}{a:Act}(h:Tm E w nt sl a.tmps):∀x:Operand,E.V w (ev sl x) (a.eval x)
 | .tmp t=>h.val t
 | .const v=>B7 v
 | .global g=>.sc _
 | .func f=>.clo f [] #[] rfl λi a v ha=>by simp at ha
theorem Tm.put{E:Env}{w:World}{nt:Nat}{sl:Nat->AV}{a:Act}{c:Ctx}{dst:Option Tmp}{v:AV}{u:Value}{s s':S}(h:Tm E w nt sl a.tmps)(hc:c.nt=nt)(hs:s.sl=sl)(hV:E.V w v u)(hp:Ix.put c dst v s=some s') :
 Tm E w nt s'.sl (a.put dst u).tmps/\s'.st=s.st/\s'.fc=s.fc:=by
 subst hc hs;cases dst with
 |none=>simp[Ix.put]at hp;subst hp;exact⟨h,rfl,rfl⟩
 |some d=>
  simp only[Ix.put]at hp;split at hp
  .rename_i hd;cases hp;refine⟨⟨by simp[Act.put,h.size],λt=>?_⟩,rfl,rfl⟩;simp only[Act.put,upd];split
   .rename_i e;subst e;rw[xdd,xet (by rw[h.size];exact hd)];exact hV
   .rename_i e;have:=h.val t;rw[xdd]at this ⊢;rwa[xdj (Ne.symm e)]
  .cases hp
theorem V_bool_or{F:Nat->Prop}{w:World}{η:Eta}{ζ:List Nat}{a:AV}{v:Value}(h:V F w η ζ a v):(∃b,a=.sc (.bool b)/\v=.bool b)\/((∀b,a≠.sc (.bool b))/\∀b,v≠.bool b):=by
 cases h with
 |sc v=>
  cases v with
  |bool b=>exact .inl ⟨b,rfl,rfl⟩
  |_=>refine .inr ⟨?_,?_⟩<;>intro b e<;>cases e
 |un _ _ _ h1=>exact .inr ⟨λb e=>(by cases e),h1.2.2⟩
 |_=>refine .inr ⟨?_,?_⟩<;>intro b e<;>cases e
theorem wanted_eq{E:Env}{w:World}{nt:Nat}{sl:Nat->AV}{tmps:Array Value}{ops:Array Oper}{o:Oper}(h:Tm E w nt sl tmps):Region.wanted o (yielded ops tmps)=vE ops o sl:=by
 unfold Region.wanted vE;cases o.guard with
 |none=>rfl
 |some g=>
  obtain⟨j,want⟩:=g;simp only[yielded];cases hj:(ops[j]?).bind (·.dst)with
  |none=>simp
  |some t=>
   have hv:=h.val t;simp only[xeu];rw[xdd]at hv;rcases V_bool_or hv with ⟨b,h1,h2⟩|⟨h1,h2⟩
   .rw[h1];cases ht:tmps[t]? with
    |none=>rw[ht]at h2;cases h2
    |some x=>rw[ht]at h2;simp only[Option.getD_some]at h2;subst h2;cases b<;>cases want<;>rfl
   .split
    .rename_i b e;rw[e]at h2;exact absurd rfl (h2 b)
    .split
     .rename_i b e;exact absurd e (h1 b)
     .rfl
structure Moved (E:Env) (w:World) (st:St) (u:Nat) (K:Nat->Prop) (E':Env) (w':World) (st':St):Prop where
 sim:Sim E' w' st'
 later:Later E w E' w'
 next:st.next<=st'.next
 dom:∀id ver,E'.η id ver≠none->(∃v0,E.η id v0≠none)\/st.next<=id.1\/(id.1=u/\K id.2.1)
def Used(E:Env)(u:Nat)(D:Nat->Prop):Prop:=∀(id:Id) (ver:Nat),E.η id ver≠none->id.1=u->D id.2.1
theorem After.moved{E E':Env}{w w':World}{st st':St}{u:Nat}{K:Nat->Prop}(h:After E w st E' w' st'):Moved E w st u K E' w' st':=
 ⟨h.sim,h.later,h.next,λid ver hn=>(h.dom id ver hn).imp_right .inl⟩
theorem Moved.refl{E:Env}{w:World}{st:St}{u:Nat}{K:Nat->Prop}(hS:Sim E w st):Moved E w st u K E w st:=(After.refl hS).moved
theorem Moved.trans{E E1 E2:Env}{w w1 w2:World}{st st1 st2:St}{u:Nat}{K K' K2:Nat->Prop}(h:Moved E w st u K E1 w1 st1)(h':Moved E1 w1 st1 u K' E2 w2 st2)(hK:∀n,K n->K2 n)(hK':∀n,K' n->K2 n):Moved E w st u K2 E2 w2 st2:=
 ⟨h'.sim,h.later.trans h'.later,xd4 h.next h'.next,λid ver hn=>by
  rcases h'.dom id ver hn with ⟨v0,h0⟩|h0|⟨h0,h1⟩
  .rcases h.dom id v0 h0 with g|g|⟨g,g'⟩
   .exact .inl g
   .exact .inr (.inl g)
   .exact .inr (.inr ⟨g,hK _ g'⟩)
  .exact .inr (.inl (xd4 h.next h0))
  .exact .inr (.inr ⟨h0,hK' _ h1⟩)⟩
theorem Moved.used{E E':Env}{w w':World}{st st':St}{u:Nat}{K D D':Nat->Prop}(h:Moved E w st u K E' w' st')(hu:u<st.next)(hU:Used E u D)(hD:∀n,D n\/K n->D' n):Used E' u D':=by
 intro id ver hn hi;rcases h.dom id ver hn with ⟨v0,h0⟩|h0|⟨_,h1⟩
 .exact hD _ (.inl (hU id v0 h0 hi))
 .omega
 .exact hD _ (.inr h1)
section
variable{P:Program}{pol:Pol}{call:Hs->FuncId->List AV->St->Option (AV×St)}{c:Ctx}{ops:Array Oper}{E:Env}{w:World}{s s':S}{a:Act}{b:Frame}{k:List Item}{cs:List Frame}
theorem o3{i:Nat}{rest:List Nat}{o:Oper}(ho:ops[i]?=some o)(hw:Region.wanted o (yielded ops a.tmps)=true)(hd:∀c,o.op≠.defer c) :
 stepG P true {frame:=b.atR a (.inRegion ops (i::rest)::k),callers:=cs,status:=.running,dying:=none} w =
  stepG.apply P true (b.atR a (.inRegion ops (i::rest)::k)) cs none (execOp a.eval o) w:=by
 rw[stepGR_op ho hw,Oper.semAt_eq _ _ _ hd]
theorem o4{i:Nat}{rest:List Nat}{o:Oper}(ho:ops[i]?=some o)(v:Value):(b.atR a (.inRegion ops (i::rest)::k)).finish v=b.atR (a.put o.dst v) (.inRegion ops rest::k):=by rw[Frame.finish_atR,ho];rfl
def Led(P:Program)(c:Ctx)(K:Nat->Prop)(E:Env)(w:World)(s:S)(a:Act)(m:List Frame->Machine)(s':S)(fin:Act->List Item)(b:Frame):Prop:=
 ∀cs,∃a' E' w',Steps P (m cs) (lone (b.atR a' (fin a')) cs w')/\a'.defers=a.defers/\Tm E' w' c.nt s'.sl a'.tmps/\Moved E w s.st c.u K E' w' s'.st
theorem step_ok(hc:tO P call){i:Nat}{rest:List Nat}(hS:Sim E w s.st)(hT:Tm E w c.nt s.sl a.tmps)(hH:HsOK P c.hs E w)(hu:c.u<s.st.next)(hf:Used E c.u (·≠s.fc+i))(h:tB P pol call c ops i s=some s') :
 (Led P c (·=s.fc+i) E w s a (λcs=>lone (b.atR a (.inRegion ops (i::rest)::k)) cs w) s' (λ_=>.inRegion ops rest::k) b)/\s'.fc=s.fc:=by
 unfold tB at h;cases ho:ops[i]? with
 |none=>simp only[ho,xc4]at h;subst h;refine⟨λcs=>⟨a,E,w,.one ?_,rfl,hT,.refl hS⟩,rfl⟩;have:=stepR_op_skip (P:=P) (b:=b) (a:=a) (k:=k) (cs:=cs) (w:=w) (ops:=ops) (i:=i) (rest:=rest) (by simp[ho]);simpa only[ho,Option.bind_none,Act.put]using this
 |some o=>
  simp only[ho]at h;rw[<-wanted_eq hT]at h;split at h
  .rename_i hw;split at h
   .rename_i fv args ats hop;split at h
    .rename_i v st' hinv
     have hA:ArgsV E w (args.toList.map (ev s.sl)) (args.map a.eval):=⟨by simp,λj x y hx hy=>by
      simp only[xeb,Array.getElem?_map,xc5,xf6]at hx hy
      obtain⟨z,hz,rfl⟩:=hx
      obtain⟨z',hz',rfl⟩:=hy
      rw[hz]at hz';cases hz'
      exact hT.ev z⟩
     obtain⟨d,hd,hh⟩:=inv9_ok hc hS hH (hT.ev fv) hA hinv;have hnd:∀c,o.op≠.defer c:=(by rw[hop];intro c e;cases e);have hex:∀r,(invoke d.target d.args).run P w=r->(execOp a.eval o).run P w=r:=(by intro r hr;simp[execOp,hop,resolve,hd,hr]);rcases hh with ⟨f,vs',hi,hb,hg⟩|⟨blk,f,tmps,assign,body,bb,hi,rfl,hg⟩|⟨u,E',w',hi,s4,s5⟩
     .have key:∀cs,∃E' w' u,Steps P (lone (b.atR a (.inRegion ops (i::rest)::k)) cs w) (lone (b.atR (a.put o.dst u) (.inRegion ops rest::k)) cs w')/\E'.V w' v u/\After E w s.st E' w' st':=by
       intro cs;obtain⟨E',w',u,hA',s4,s5⟩:=hg (b.atR a (.inRegion ops (i::rest)::k)::cs);obtain⟨fr',s1,s2,s3⟩:∃fr',Steps P (lone (Frame.enter P f vs' .normal) (b.atR a (.inRegion ops (i::rest)::k)::cs) w) (lone fr' (b.atR a (.inRegion ops (i::rest)::k)::cs) w')/\fr'.fn=f/\fr'.leaving P w' (.returned u):=by
        rcases hA' with ⟨-,h⟩|⟨hn,-⟩
        .exact h
        .exact absurd hb hn
       refine⟨E',w',u,.head (step_lone_go ?_) (Steps.trans s1 (.one ?_)),s4,s5⟩
       .rw[o3 ho hw hnd];simp[stepG.apply,hex _ hi,Frame.atR]
       .rw[<-o4 ho];exact step_leave_returned s3
      obtain⟨_,_,_,_,hV0,hA0⟩:=key [];have hput:s'.st=st'/\s'.fc=s.fc:=(by have:=(hT.past hA0.later.past).put (s:={s with st:=st' }) rfl rfl hV0 h;exact⟨this.2.1,this.2.2⟩);refine⟨λcs=>?_,hput.2⟩;obtain⟨E',w',u,s1,s4,s5⟩:=key cs;exact⟨_,E',w',s1,by cases o.dst<;>rfl,((hT.past s5.later.past).put (s:={s with st:=st' }) rfl rfl s4 h).1,by rw[hput.1];exact s5.moved⟩
     .have key:∀cs,∃E' w',Steps P (lone (b.atR a (.inRegion ops (i::rest)::k)) cs w) (lone (b.atR (a.put o.dst (.bool bb)) (.inRegion ops rest::k)) cs w')/\After E w s.st E' w' st':=(by intro cs;obtain⟨E',w',s1,s5⟩:=hg (b.atR a (.inRegion ops (i::rest)::k)) cs;rw[o4 ho]at s1;refine⟨E',w',.head (step_lone_go ?_) s1,s5⟩;rw[o3 ho hw hnd];simp[stepG.apply,hex _ hi,Frame.atR]);obtain⟨_,_,_,hA0⟩:=key [];have hput:s'.st=st'/\s'.fc=s.fc:=(by have:=(hT.past hA0.later.past).put (s:={s with st:=st' }) rfl rfl (.sc (.bool bb)) h;exact⟨this.2.1,this.2.2⟩);refine⟨λcs=>?_,hput.2⟩;obtain⟨E',w',s1,s5⟩:=key cs;exact⟨_,E',w',s1,by cases o.dst<;>rfl,((hT.past s5.later.past).put (s:={s with st:=st' }) rfl rfl (.sc (.bool bb)) h).1,by rw[hput.1];exact s5.moved⟩
     .have hput:=(hT.past s5.later.past).put (s:={s with st:=st' }) rfl rfl s4 h;refine⟨λcs=>⟨_,E',w',.one (step_lone_go ?_),by cases o.dst<;>rfl,hput.1,by rw[hput.2.1];exact s5.moved⟩,hput.2.2⟩;rw[o3 ho hw hnd,<-o4 ho];simp[stepG.apply,hex _ hi]
    .cases h
   .rename_i rv name args ats hop;split at h
    .rename_i g x hmeth;split at h
     .rename_i v st' hinv;obtain⟨t,u0,p,hrv,hp,rfl,rfl⟩:∃t u0 p,ev s.sl rv=.sc (.iface t u0)/\qR P (method (P.types.size+Made.depth) t u0 name)=some p/\p.1=g/\sE p.2=x:=by
       unfold y6 at hmeth;split at hmeth
       .rename_i t u0 hrv;simp only[xc5,xc3]at hmeth;obtain⟨p,h1,h2,h3⟩:=hmeth;exact⟨t,u0,p,hrv,h1,h2,h3⟩
       .cases hmeth
      have hA:ArgsV E w (sE p.2::args.toList.map (ev s.sl)) (#[p.2]++args.map a.eval):=by
       refine ArgsV.append (as:=[sE p.2]) (us:=#[p.2]) ⟨rfl,λj x y hx hy=>?_⟩ ⟨by simp,λj x y hx hy=>?_⟩
       .match j,hx,hy with
        |0,hx,hy=>simp at hx hy;subst hx hy;exact B7 _
        |j+1,hx,hy=>simp at hx
       .simp only[xeb,Array.getElem?_map,xc5,xf6]at hx hy;obtain⟨z,hz,rfl⟩:=hx;obtain⟨z',hz',rfl⟩:=hy;rw[hz]at hz';cases hz';exact hT.ev z
      have hV0:=hT.ev rv;rw[hrv]at hV0;have hev:=uK hV0;obtain⟨d,hd,hh⟩:=x53 hc hS hH (fv:=.clo p.1 []) (fvv:=.func (.func p.1) #[] #[]) (.clo p.1 [] #[] rfl λi a v ha=>by simp at ha) hA hinv;have hd':d={target:=.fn (.func p.1) #[],args:=#[p.2]++args.map a.eval}:=(by simp[Deferred.ofValue]at hd;rw[<-hd]);have hnd:∀c,o.op≠.defer c:=(by rw[hop];intro c e;cases e);have hm:=yM hp w;have hex:∀r,(invoke d.target d.args).run P w=r->(execOp a.eval o).run P w=r:=(by intro r hr;rw[hd']at hr;rw[<-hr];have e0:(#[Value.iface t u0]++args.map a.eval)[0]?=some (.iface t u0):=(by simp[xfi]);have e1:(#[Value.iface t u0]++args.map a.eval).extract 1 (#[Value.iface t u0]++args.map a.eval).size=args.map a.eval:=(by generalize args.map a.eval=zs;apply Array.ext';rw[Array.toList_extract];simp[List.extract];exact xca (by simp));have e2:∀args:Array Value,(callMethod (.iface t u0) name args).run P w=(callFunc p.1 (#[p.2]++args)).run P w:=(by intro args;simp only[callMethod,Sem.run_bind];show((method (P.types.size+Made.depth) t u0 name).run P w).andThen _=_;rw[hm];rfl);simp only[execOp,hop,resolve,hev,Sem.run_bind,Sem.run_pure,Result.andThen_ok,invoke,e0,e1,e2,Array.append_empty]);rcases hh with ⟨f,vs',hi,hb,hg⟩|⟨blk,f,tmps,assign,body,bb,hi,rfl,hg⟩|⟨u,E',w',hi,s4,s5⟩
      .have key:∀cs,∃E' w' u,Steps P (lone (b.atR a (.inRegion ops (i::rest)::k)) cs w) (lone (b.atR (a.put o.dst u) (.inRegion ops rest::k)) cs w')/\E'.V w' v u/\After E w s.st E' w' st':=by
        intro cs;obtain⟨E',w',u,hA',s4,s5⟩:=hg (b.atR a (.inRegion ops (i::rest)::k)::cs);obtain⟨fr',s1,s2,s3⟩:∃fr',Steps P (lone (Frame.enter P f vs' .normal) (b.atR a (.inRegion ops (i::rest)::k)::cs) w) (lone fr' (b.atR a (.inRegion ops (i::rest)::k)::cs) w')/\fr'.fn=f/\fr'.leaving P w' (.returned u):=by
         rcases hA' with ⟨-,h⟩|⟨hn,-⟩
         .exact h
         .exact absurd hb hn
        refine⟨E',w',u,.head (step_lone_go ?_) (Steps.trans s1 (.one ?_)),s4,s5⟩
        .rw[o3 ho hw hnd];simp[stepG.apply,hex _ hi,Frame.atR]
        .rw[<-o4 ho];exact step_leave_returned s3
       obtain⟨_,_,_,_,hV0,hA0⟩:=key [];have hput:s'.st=st'/\s'.fc=s.fc:=(by have:=(hT.past hA0.later.past).put (s:={s with st:=st' }) rfl rfl hV0 h;exact⟨this.2.1,this.2.2⟩);refine⟨λcs=>?_,hput.2⟩;obtain⟨E',w',u,s1,s4,s5⟩:=key cs;exact⟨_,E',w',s1,by cases o.dst<;>rfl,((hT.past s5.later.past).put (s:={s with st:=st' }) rfl rfl s4 h).1,by rw[hput.1];exact s5.moved⟩
      .have key:∀cs,∃E' w',Steps P (lone (b.atR a (.inRegion ops (i::rest)::k)) cs w) (lone (b.atR (a.put o.dst (.bool bb)) (.inRegion ops rest::k)) cs w')/\After E w s.st E' w' st':=(by intro cs;obtain⟨E',w',s1,s5⟩:=hg (b.atR a (.inRegion ops (i::rest)::k)) cs;rw[o4 ho]at s1;refine⟨E',w',.head (step_lone_go ?_) s1,s5⟩;rw[o3 ho hw hnd];simp[stepG.apply,hex _ hi,Frame.atR]);obtain⟨_,_,_,hA0⟩:=key [];have hput:s'.st=st'/\s'.fc=s.fc:=(by have:=(hT.past hA0.later.past).put (s:={s with st:=st' }) rfl rfl (.sc (.bool bb)) h;exact⟨this.2.1,this.2.2⟩);refine⟨λcs=>?_,hput.2⟩;obtain⟨E',w',s1,s5⟩:=key cs;exact⟨_,E',w',s1,by cases o.dst<;>rfl,((hT.past s5.later.past).put (s:={s with st:=st' }) rfl rfl (.sc (.bool bb)) h).1,by rw[hput.1];exact s5.moved⟩
      .have hput:=(hT.past s5.later.past).put (s:={s with st:=st' }) rfl rfl s4 h;refine⟨λcs=>⟨_,E',w',.one (step_lone_go ?_),by cases o.dst<;>rfl,hput.1,by rw[hput.2.1];exact s5.moved⟩,hput.2.2⟩;rw[o3 ho hw hnd,<-o4 ho];simp[stepG.apply,hex _ hi]
     .cases h
    .cases h
   .split at h
    .rename_i v objs' hop;have hnd:∀c,o.op≠.defer c:=by intro c e;simp[qH,e]at hop
     obtain⟨nx,u,E',w',h1,h2,h3,h4,h5,h6⟩:=op_ok hS hT.ev (by exact hu) (λver=>by
      cases he:E.η (c.u,s.fc+i,o.dst.getD 0) ver with
      |none=>rfl
      |some x=>exact absurd rfl (hf _ ver (by rw[he];simp) rfl)) hop
     have hput:=(hT.past h5.past).put (s:={s with st:={s.st with objs:=objs' }}) rfl rfl h3 h;refine⟨λcs=>⟨a.put o.dst u,E',w',.one (step_lone_go ?_),by cases o.dst<;>rfl,hput.1,?_⟩,hput.2.2⟩
     .rw[o3 ho hw hnd,<-o4 ho];rcases h2 with rfl|⟨rfl,rfl⟩<;>simp[stepG.apply,h1]
     .rw[hput.2.1];refine⟨h4,h5,xc7 _,λid ver hn=>?_⟩;rcases h6 id ver hn with g|g|g
      .exact .inl ⟨ver,g⟩
      .subst g;exact .inr (.inr ⟨rfl,rfl⟩)
      .exact .inl g
    .cases h
  .rename_i hw;have hput:=hT.put (s:=s) rfl rfl (.sc undef) h;refine⟨λcs=>⟨a.put o.dst undef,E,w,.one ?_,by cases o.dst<;>rfl,hput.1,by rw[hput.2.1];exact .refl hS⟩,hput.2.2⟩;have:=stepR_op_skip (P:=P) (b:=b) (a:=a) (k:=k) (cs:=cs) (w:=w) (ops:=ops) (i:=i) (rest:=rest) (by simp only[ho,Option.map_some,Option.getD_some];simpa using hw);simpa only[ho,xeu]using this
end
section
variable{P:Program}{E:Env}{w w':World}{st:St}
theorem Sim.next{st':St}(hS:Sim E w st)(ho:st'.objs=st.objs)(hn:st.next<=st'.next):Sim E w st':=
 ⟨λi o h=>hS.obj i o (by rw[<-ho];exact h),λi v x h=>xcq (hS.dom i v x h) hn,hS.own,hS.fin,hS.gl⟩
theorem Sim.aside{E':Env}(hS:Sim E w st)(hx:Ext (λb=>E.F b\/E.O b≠none) w w')(hη:∀i v x,E.η i v=some x->E'.η i v=some x)(hd:∀i v x,E'.η i v=some x->i.1<st.next)(hn:∀i o,st.objs i=some o->∀v,E'.η i v=E.η i v)(hF:E'.F=E.F)(hO:E'.O=E.O)(hζ:E'.ζ=E.ζ)(hX:∀b,E'.X b->E.X b\/(w.heap.size<=b/\b<w'.heap.size)):Sim E' w' st:=by
 have hV:∀{a v},E.V w a v->E'.V w' a v:=λh=>V.mono (λb hb=>by rw[hF];exact hb) (hx.weaken λ_ _ g=>.inl g) h hη (λ_ _ e=>by rw[hζ];exact e)
 refine⟨λi o ho=>?_,hd,λb i h=>?_,λb h=>?_,hS.gl2 (λb h=>by rw[hF];exact h) hζ (hx.weaken λ_ _ g=>.inl g)⟩
 .have hold:=hS.obj i o ho;cases o with
  |row cs ver fr=>
   obtain⟨blk,base,arr,t,h1,h2,h3,h4,h5,h6⟩:=hold;have hb:blk<w.heap.size:=xM (uX h3);refine⟨blk,base,arr,t,hη _ _ _ h1,λv' hv'=>by rw[hn i _ ho];exact h2 v' hv',?_,h4,λk a ha=>?_,?_⟩
   .rw[hx.same blk ?_ hb];exact h3;cases fr with
    |true=>simp at h6;exact .inl h6
    |false=>simp at h6;exact .inr (by rw[h6];simp)
   .obtain⟨v,hv,hVV,ho1⟩:=h5 k a ha;exact⟨v,hv,hV hVV,ho1⟩
   .rw[hF,hO];exact h6
  |bld t e l=>
   obtain⟨blk,p,v,h1,h2,h3,h4,h5,h6,h7,h8⟩:=hold;have hs:∀b,E.O b=some i->w'.heap[b]?=w.heap[b]?:=λb hb=>hx.same b (.inr (by rw[hb];simp)) (hS.own _ _ hb).2.2
   exact⟨blk,p,v,hη _ _ _ h1,λv' hv'=>by rw[hn i _ ho];exact h2 v' hv',by rw[hs _ h7];exact h3,h4,h5.keep λg hg=>hs _ (h8 g hg),h6,by rw[hO];exact h7,λg hg=>by rw[hO];exact h8 g hg⟩
  |lp d=>obtain⟨blk,r,h1,h2,h3,h4,h5⟩:=hold;have hb:blk<w.heap.size:=(hS.own _ _ h4).2.2;exact⟨blk,r,hη _ _ _ h1,λv' hv'=>by rw[hn i _ ho];exact h2 v' hv',by rw[hx.same blk (.inr (by rw[h4];simp)) hb];exact h3,by rw[hO];exact h4,h5⟩
  |map es=>obtain⟨blk,ents,clock,h1,h2,h3,h4,h5,h6⟩:=hold;have hb:blk<w.heap.size:=(hS.own _ _ h6).2.2;exact⟨blk,ents,clock,hη _ _ _ h1,λv' hv'=>by rw[hn i _ ho];exact h2 v' hv',by rw[hx.same blk (.inr (by rw[h6];simp)) hb];exact h3,h4,λk e m he hm=>⟨(h5 k e m he hm).1,hV (h5 k e m he hm).2⟩,by rw[hO];exact h6⟩
 .rw[hO]at h;obtain⟨h1,h2,h3⟩:=hS.own b i h;refine⟨by rw[hF];exact h1,λhx'=>?_,xcq h3 hx.size⟩;rcases hX b hx' with g|g
  .exact h2 g
  .omega
 .rcases h with h|h
  .rw[hF]at h;exact xcq (hS.fin b (.inl h)) hx.size
  .rcases hX b h with g|g
   .exact xcq (hS.fin b (.inr g)) hx.size
   .exact g.2
def hold(E:Env)(blk:Nat)(nm:Option Id):Env:=
 {E with X:=λb=>E.X b\/b=blk,η:=λi v=>if nm=some i/\v=0 then some (blk,0,0)else E.η i v}
theorem Sim.hold{o:Obj}{nm:Option Id}(hS:Sim E w st)(hw:w'.heap=w.heap.push o)(hf:∀id,nm=some id->id.1<st.next/\∀ver,E.η id ver=none)(hos:w'.os=w.os:=by first|assumption|rfl)(hout:w'.output=w.output:=by first|assumption|rfl) :
 Sim (hold E w.heap.size nm) w' st/\Later E w (Ix.hold E w.heap.size nm) w'/\Held (Ix.hold E w.heap.size nm) w' w.heap.size o:=by
 have hsame:∀b,b<w.heap.size->w'.heap[b]?=w.heap[b]?:=λb hb=>by rw[hw,xe3 hb,xcl hb]
 have hext:∀G,Ext G w w':=λG=>⟨by rw[hw];simp,λb hb=>by simp[World.shape?,hsame b hb],λb _ hb=>hsame b hb,hos,hout⟩
 have hη:∀i v x,E.η i v=some x->(Ix.hold E w.heap.size nm).η i v=some x:=λi v x h=>by
  show(if _ then _ else _)=_;split
  .rename_i e;rw[(hf i e.1).2]at h;cases h
  .exact h
 refine⟨hS.aside (hext _) hη (λi v x h=>?_) (λi o' ho v=>?_) rfl rfl rfl (λb h=>?_),⟨hη,λ_ h=>h,λ_ h=>.inl h,λ_ _ h=>.inl h,λ_ h=>.inl h,λb h=>?_,rfl,hext _,.of_same hsame,λi ver x e _ _ v=>?_⟩,.inr rfl,λh=>?_,by rw[hw];simp⟩
 .replace h:(if nm=some i/\v=0 then some (w.heap.size,0,0)else E.η i v)=some x:=h
  split at h
  .rename_i e;exact(hf i e.1).1
  .exact hS.dom _ _ _ h
 .show(if _ then _ else _)=_;split
  .rename_i e;obtain⟨ver,hv⟩:=(hS.obj i o' ho).eta;exact absurd ((hf i e.1).2 ver) hv
  .rfl
 .rcases h with h|h
  .exact .inl h
  .exact .inr ⟨by omega,by rw[hw];simp;omega⟩
 .rcases h with h|h
  .exact .inl h
  .exact .inr (by omega)
 .show(if _ then _ else _)=_;split
  .rename_i h;rw[(hf i h.1).2]at e;cases e
  .rfl
 .have:=hS.fin _ (.inl h);omega
theorem World.set_ext{blk:Nat}{o o':Obj}(ho:w.heap[blk]?=some o)(hw:w'.heap=w.heap.setIfInBounds blk o')(h1:∀c t f,o≠.cells c t f)(h2:∀c t f,o'≠.cells c t f){G:Nat->Prop}(hG:¬G blk)(hos:w'.os=w.os:=by first|assumption|rfl)(hout:w'.output=w.output:=by first|assumption|rfl):Ext G w w':=by
 refine⟨by rw[hw];simp,λb hb=>?_,λb hb _=>?_,hos,hout⟩
 .unfold World.shape?;rw[hw];by_cases e:blk=b
  .subst e;rw[xet hb,ho];cases o<;>cases o'<;>first|rfl|exact absurd rfl (h1 _ _ _)|exact absurd rfl (h2 _ _ _)
  .rw[xdj e]
 .rw[hw,xdj (λe=>hG (by rw[e];exact hb))]
theorem Held.set{blk:Nat}{o o':Obj}(hS:Sim E w st)(hh:Held E w blk o)(hw:w'.heap=w.heap.setIfInBounds blk o')(h1:∀c t f,o≠.cells c t f)(h2:∀c t f,o'≠.cells c t f)(hos:w'.os=w.os:=by first|assumption|rfl)(hout:w'.output=w.output:=by first|assumption|rfl) :
 Sim E w' st/\Past E w E w'/\Held E w' blk o'/\∀b',b'≠blk->w'.heap[b']?=w.heap[b']?:=by
 obtain⟨g1,g2,g3⟩:=hh;have hO:E.O blk=none:=by
  cases ho:E.O blk with
  |none=>rfl
  |some id=>exact absurd g1 (hS.own _ _ ho).2.1
 have hx:Ext (λb=>E.F b\/E.O b≠none) w w':=World.set_ext g3 hw h1 h2 (by rintro(h|h);exact g2 h;exact h hO);have hlt:blk<w.heap.size:=hS.fin _ (.inr g1);refine⟨hS.aside hx (λ_ _ _ h=>h) hS.dom (λ_ _ _ _=>rfl) rfl rfl rfl (λ_ h=>.inl h),⟨λ_ _ _ h=>h,λ_ h=>h,rfl,hx.weaken λ_ _ g=>.inl g⟩,⟨g1,g2,by rw[hw,xet hlt]⟩,λb' hb'=>by rw[hw,xdj (Ne.symm hb')]⟩
theorem Rec.set{id:Id}{blk:Nat}{r:Loop}(h:Rec E w id blk r)(hne:w'.heap[blk]?=w.heap[blk]?):Rec E w' id blk r:=by
 unfold Rec at h ⊢;split at h
 .rename_i hi;rw[xc2 hi];exact⟨h.1,h.2.1,by rw[hne];exact h.2.2⟩
 .rename_i hi;rw[xc1 hi,hne];exact h
theorem P4{objs:Id->Option Ob}{id:Id}{o:Ob}(h:objs id=some o):qM objs id (some o)=objs:=by
 funext i;unfold qM;split
 .rename_i e;rw[e,h]
 .rfl
theorem Sim.lset{id:Id}{blk:Nat}{r r':Loop}{d d':Option Out}(hS:Sim E w st)(ho:st.objs id=some (.lp d))(hη:E.η id 0=some (blk,0,0))(hr:w.heap[blk]?=some (.loop r))(hw:w'.heap=w.heap.setIfInBounds blk (.loop r'))(hd:LpSt d' r')(hos:w'.os=w.os:=by first|assumption|rfl)(hout:w'.output=w.output:=by first|assumption|rfl) :
 Sim E w' {st with objs:=qM st.objs id (some (.lp d'))}/\Past E w E w'/\w'.heap[blk]?=some (.loop r')/\(∀b',b'≠blk->w'.heap[b']?=w.heap[b']?)/\¬E.G blk:=by
 obtain⟨b1,r1,h1,h2,h3,h4,h5⟩:=hS.obj id _ ho;rw[hη]at h1;cases h1;have hown:=hS.own _ _ h4;have hne:∀b',b'≠blk->w'.heap[b']?=w.heap[b']?:=λb' hb'=>by rw[hw,xdj (Ne.symm hb')]
 have hat:w'.heap[blk]?=some (.loop r'):=(by rw[hw,xet hown.2.2]);have hG:¬E.G blk:=(by rintro(h|h);exact hown.1 h;exact hown.2.1 h);have hx:Ext E.F w w':=World.set_ext hr hw (by intro c t f e;cases e) (by intro c t f e;cases e) hown.1
 refine⟨(hS.turn0 (E':=E) (w':=w') (id:=id) (o:=.lp d') (hS.dom _ _ _ hη) (λ_ _ _ h=>h) (λ_ _ _=>rfl) rfl rfl rfl (λ_ _=>rfl) (λb i hb hO=>by have:=(hS.own b i hO).2.2;omega) hx.size hx.shape
  (λb _ hb=>hne b λe=>by subst e;exact hb h4) ⟨blk,r',hη,h2,hat,h4,hd⟩).1,⟨λ_ _ _ h=>h,λ_ h=>h,rfl,hx⟩,hat,hne,hG⟩
theorem Sim.lnew{id:Id}{r:Loop}(hS:Sim E w st)(hid:id.1<st.next)(hf:∀ver,E.η id ver=none)(hw:w'.heap=w.heap.push (.loop r))(hr:r.state=.ready)(hp:r.pending=none)(hos:w'.os=w.os:=by first|assumption|rfl)(hout:w'.output=w.output:=by first|assumption|rfl) :
 ∃E',Sim E' w' {st with objs:=qM st.objs id (some (.lp none))}/\Later E w E' w'/\E'.η id 0=some (w.heap.size,0,0)/\(∀i v,i≠id->E'.η i v=E.η i v)/\w'.heap[w.heap.size]?=some (.loop r):=by
 have hsame:∀b,b<w.heap.size->w'.heap[b]?=w.heap[b]?:=λb hb=>by rw[hw,xe3 hb,xcl hb]
 have hat:w'.heap[w.heap.size]?=some (.loop r):=(by rw[hw];simp);let E':Env:={E with η:=λi v=>if i=id/\v=0 then some (w.heap.size,0,0)else E.η i v,O:=λb=>if b=w.heap.size then some id else E.O b}
 have hη:∀i v x,E.η i v=some x->E'.η i v=some x:=λi v x h=>by
  show(if _ then _ else _)=_;split
  .rename_i e;rw[e.1,hf]at h;cases h
  .exact h
 have hne:∀i v,i≠id->E'.η i v=E.η i v:=λi v hne=>by show(if _ then _ else _)=_;rw[xc1 (λe=>hne e.1)]
 have h0:E'.η id 0=some (w.heap.size,0,0):=(by show(if _ then _ else _)=_;rw[xc2 ⟨rfl,rfl⟩]);obtain⟨h1,h2⟩:=hS.turn (E':=E') (w':=w') (id:=id) (o:=.lp none) (.of_same hsame) hid hη hne rfl rfl rfl
  (λb hb=>by show(if _ then _ else _)=_;rw[xc1 (by omega)])
  (λb i hb hO=>by
   replace hO:(if b=w.heap.size then some id else E.O b)=some i:=hO
   split at hO
   .rename_i e;cases hO;exact⟨rfl,by rw[hw];simp;omega⟩
   .have:=(hS.own b i hO).2.2;omega)
  (by rw[hw];simp) (λb hb=>by simp[World.shape?,hsame b hb]) (λb hb _=>hsame b hb)
  ⟨w.heap.size,r,h0,λv' hv'=>by
   show(if _ then _ else _)=_
   rw[xc1 (by rintro⟨_,e⟩;omega)];exact hf v',hat,by show(if _ then _ else _)=_;rw[xc2 rfl],by rw[hr];simp,hp⟩
 exact⟨E',h1,h2,h0,hne,hat⟩
theorem HsOK.set{blk:Nat}(hp:Past E w E w')(hne:∀b',b'≠blk->w'.heap[b']?=w.heap[b']?):∀{hs:Hs},HsOK P hs E w->(∀p∈hs,∀blk',E.η p.1 0=some (blk',0,0)->blk'≠blk)->HsOK P hs E w'
 |[],h,_=>h
 |_::_,⟨h1,blk',r,h2,h3,h4,h5,h7,h6⟩,hd=>⟨h1.set hp hne λp hm=>hd p (xc9 _ hm),blk',r,h2,h3.set (hne _ (hd _ (xcf) _ h2)),h4,h5,h7,λE1 w1 st args vs st' hp'=>h6 E1 w1 st args vs st' (hp.trans hp')⟩
theorem zW{l:Nat}{r:Loop}(h:w.heap[l]?=some (.loop r)):(Instr.getLoop l).run P w=.ok r w:=by simp[Instr.getLoop,getObj,Sem.run,h,Bind.bind,Sem.bind,Pure.pure]
theorem x54{l:Nat}{r:Loop}(h:w.heap[l]?=some (.loop r))(hr:r.state=.ready) :
 (Instr.beginRound l).run P w=.ok () {w with heap:=w.heap.setIfInBounds l (.loop {r with state:=.busy})}:=by
 simp only[Instr.beginRound,Sem.run_bind,zW h,Result.andThen_ok,hr];simp[setObj,Sem.run,h,Bind.bind,Sem.bind,Pure.pure]
theorem x8r{l:Nat}{r:Loop}(h:w.heap[l]?=some (.loop r)) :
 (Instr.endRound l none).run P w=.ok (.bool true) {w with heap:=w.heap.setIfInBounds l (.loop {r with state:=.ready,pending:=none})}:=by
 simp only[Instr.endRound,Sem.run_bind,zW h,Result.andThen_ok];simp[setObj,Sem.run,h,Bind.bind,Sem.bind,Pure.pure]
theorem x8s{l:Nat}{r:Loop}(h:w.heap[l]?=some (.loop r))(hr:r.state=.ready)(hp:r.pending=none) :
 (Instr.endLoop l).run P w=.ok none {w with heap:=w.heap.setIfInBounds l (.loop {r with state:=.exhausted})}:=by
 simp only[Instr.endLoop,Sem.run_bind,zW h,Result.andThen_ok,hr];simp[setObj,Sem.run,h,Bind.bind,Sem.bind,Pure.pure,hp]
theorem P5{l:Nat}{r:Loop}(h:w.heap[l]?=some (.loop r))(j:Option Code) :
 (Instr.endRound l j).run P w=.ok (.bool j.isNone) {w with heap:=w.heap.setIfInBounds l (.loop {r with state:=if j.isNone then .ready else .done,pending:=j})}:=by
 simp only[Instr.endRound,Sem.run_bind,zW h,Result.andThen_ok];simp[setObj,Sem.run,h,Bind.bind,Sem.bind,Pure.pure]
theorem x8t{l:Nat}{r:Loop}(h:w.heap[l]?=some (.loop r))(hr:r.state≠.busy) :
 (Instr.endLoop l).run P w=.ok r.pending {w with heap:=w.heap.setIfInBounds l (.loop {r with state:=.exhausted})}:=by
 have hb:(r.state == .busy)=false:=(by cases h':r.state<;>first|rfl|exact absurd h' hr);simp only[Instr.endLoop,Sem.run_bind,zW h,Result.andThen_ok,hb];simp[setObj,Sem.run,h,Bind.bind,Sem.bind,Pure.pure]
theorem x8u{r:Nat}(h:w.heap[r]?=some (.deferred (some []))) :
 (Instr.takeDeferred r).run P w=.ok [] {w with heap:=w.heap.setIfInBounds r (.deferred none)}:=by
 simp[Instr.takeDeferred,getObj,setObj,Sem.run,h,Bind.bind,Sem.bind,Pure.pure]
theorem x55{l:Nat}{r:Loop}{vs:Array Value}(h:w.heap[l]?=some (.loop r))(hl:vs.size=r.params.size) :
 (Instr.yield l vs).run P w=.ok (.round l r.fn ((r.params.zip vs).foldl (λtmps (t,a)=>tmps.setIfInBounds t a) r.tmps) r.assign r.body) w:=by
 simp only[Instr.yield,Sem.run_bind,zW h,Result.andThen_ok];simp[hl]
end
def Marks(lim:Nat)(E:Env)(w:World):List Deferred->Prop
 |[]=>True
 |d::ds=>Marks lim E w ds/\∃r,d.target=.collected r/\lim<=r/\Held E w r (.deferred (some []))/\∀d'∈ds,d'.target≠.collected r
theorem Marks.later{lim:Nat}{E E':Env}{w w':World}{st:St}(hS:Sim E w st)(l:Later E w E' w'):∀{ds:List Deferred},Marks lim E w ds->Marks lim E' w' ds
 |[],_=>trivial
 |_::_,⟨h1,r,h2,h3,h4,h5⟩=>⟨h1.later hS l,r,h2,h3,h4.later hS l,h5⟩
structure Pre (P:Program) (c:Ctx) (lim:Nat) (b:Frame) (E:Env) (w:World) (s:S) (a:Act):Prop where
 sim:Sim E w s.st
 tm:Tm E w c.nt s.sl a.tmps
 hs:HsOK P c.hs E w
 u:c.u<s.st.next
 used:Used E c.u (· < s.fc)
 kind:b.kind=.normal
 round:∀l,b.roundOf=some l->∃r,w.heap[l]?=some (.loop r)
 marks:Marks lim E w a.defers
structure Post (P:Program) (c:Ctx) (lim:Nat) (b:Frame) (E:Env) (w:World) (s:S) (E':Env) (w':World) (s':S) (a':Act):Prop where
 pre:Pre P c lim b E' w' s' a'
 moved:Moved E w s.st c.u (s.fc<=·) E' w' s'.st
 fc:s.fc<=s'.fc
section
variable{P:Program}{c:Ctx}{lim:Nat}{b:Frame}{E E':Env}{w w':World}{s s':S}{a a':Act}
theorem Post.refl(h:Pre P c lim b E w s a):Post P c lim b E w s E w s a:=⟨h,.refl h.sim,xc7 _⟩
theorem Post.trans{E1:Env}{w1:World}{s1:S}{a1:Act}(h:Post P c lim b E w s E1 w1 s1 a1)(h':Post P c lim b E1 w1 s1 E' w' s' a'):Post P c lim b E w s E' w' s' a':=
 ⟨h'.pre,h.moved.trans h'.moved (λ_ h=>h) (λ_ g=>xd4 h.fc g),xd4 h.fc h'.fc⟩
theorem Pre.on(h:Pre P c lim b E w s a){K:Nat->Prop}(hm:Moved E w s.st c.u K E' w' s'.st)(hK:∀n,K n->s.fc<=n/\n<s'.fc)(hfc:s.fc<=s'.fc)(ht:Tm E' w' c.nt s'.sl a'.tmps)(hd:a'.defers=a.defers):Post P c lim b E w s E' w' s' a':=
 ⟨⟨hm.sim,ht,h.hs.later h.sim hm.later,xcq h.u hm.next,hm.used h.u h.used (by intro n hn;rcases hn with hn|hn;exact xcq hn hfc;exact(hK n hn).2),h.kind,
   λl hl=>let⟨r,hr⟩:=h.round l hl;let⟨r',hr',_⟩:=hm.later.lsh l r hr;⟨r',hr'⟩,by rw[hd];exact h.marks.later h.sim hm.later⟩,
  hm.trans (.refl hm.sim) (λn hn=>(hK n hn).1) (K':=λ_=>False) (λ_ h=>h.elim),hfc⟩
def Arr(P:Program)(m:Machine)(b:Frame)(k:List Item)(cs:List Frame)(a':Act)(w':World):Out->Prop
 | .normal=>Steps P m (lone (b.atR a' k) cs w')
 | .exit id=>∃k1,exitTo id k1=exitTo id k/\Steps P m (lone (b.atR a' (.code (.exit id)::k1)) cs w')
 | .ret=>∃k1,Steps P m (lone (b.atR a' (.code .ret::k1)) cs w')
theorem Arr.head{m m1:Machine}{k:List Item}{cs:List Frame}{o:Out}(h:Steps P m m1)(h':Arr P m1 b k cs a' w' o):Arr P m b k cs a' w' o:=by
 cases o with
 |normal=>exact Steps.trans h h'
 |exit id=>obtain⟨k1,h1,h2⟩:=h';exact⟨k1,h1,Steps.trans h h2⟩
 |ret=>obtain⟨k1,h2⟩:=h';exact⟨k1,Steps.trans h h2⟩
def wZ(P:Program)(c:Ctx)(code:Code)(s:S)(o:Out)(s':S):Prop:=
 ∀(b:Frame) (a:Act) (E:Env) (w:World) (lim:Nat) (k:List Item) (cs:List Frame) (it:Item),(it=.code code\/∃b0,code=.loop b0/\it=.inLoop b0)->lim<=w.heap.size->Pre P c lim b E w s a ->
  ∃a' E' w',Post P c lim b E w s E' w' s' a'/\Arr P (lone (b.atR a (it::k)) cs w) b k cs a' w' o
def C4(P:Program)(pol:Pol):Prop:=∀call,tO P call->∀(c:Ctx) (ops:Array Oper) (s s1:S) (E:Env) (w:World) (tmps:Array Value),Sim E w s.st->Tm E w c.nt s.sl tmps->HsOK P c.hs E w->c.u<s.st.next->Used E c.u (· < s.fc) ->
 sX P pol call c ops (List.range ops.size) s=some s1->zO P ops s1.sl=false->l7 P pol c s.fc s.st.next ops s1.sl=true ->
  ∀t,(Region.schedule (P.follows .mixedOrders) ops t).Nodup/\(∀i∈Region.schedule (P.follows .mixedOrders) ops t,i<ops.size)/\sX P pol call c ops (Region.schedule (P.follows .mixedOrders) ops t) s=some s1
variable{pol:Pol}{call:Hs->FuncId->List AV->St->Option (AV×St)}{ops:Array Oper}{k:List Item}{cs:List Frame}
theorem I1{s0:S}{dst:Option Tmp}{v:AV}(h:Ix.put c dst v s0=some s'):s'.fc=s0.fc:=by
 cases dst with
 |none=>simp[Ix.put]at h;rw[<-h]
 |some d=>
  simp only[Ix.put]at h;split at h
  .cases h;rfl
  .cases h
theorem P6{i:Nat}(h:tB P pol call c ops i s=some s'):s'.fc=s.fc:=by
 unfold tB at h;split at h
 .cases h;rfl
 .split at h
  .split at h
   .split at h
    .exact(I1 h).trans rfl
    .cases h
   .split at h
    .split at h
     .exact(I1 h).trans rfl
     .cases h
    .cases h
   .split at h
    .exact(I1 h).trans rfl
    .cases h
  .exact I1 h
theorem run_ok(hc:tO P call):∀(L:List Nat) {s:S} {E:Env} {w:World} {a:Act},L.Nodup->Sim E w s.st->Tm E w c.nt s.sl a.tmps->HsOK P c.hs E w->c.u<s.st.next->Used E c.u (λn=>∀i∈L,n≠s.fc+i)->sX P pol call c ops L s=some s' ->
 (∃a' E' w',Steps P (lone (b.atR a (.inRegion ops L::k)) cs w) (lone (b.atR a' (.inRegion ops []::k)) cs w')/\a'.defers=a.defers/\Tm E' w' c.nt s'.sl a'.tmps/\Moved E w s.st c.u (λn=>∃i∈L,n=s.fc+i) E' w' s'.st)/\s'.fc=s.fc
 |[],s,E,w,a,_,hS,hT,_,_,_,h=>by simp[sX]at h;subst h;exact⟨⟨a,E,w,.refl _ _,rfl,hT,.refl hS⟩,rfl⟩
 |i::L,s,E,w,a,hN,hS,hT,hH,hu,hU,h=>by
  simp only[sX]at h;split at h
  .rename_i s1 hs1;have hfc:=P6 hs1;obtain⟨a1,E1,w1,g1,g2,g3,g4⟩:=(step_ok (b:=b) (k:=k) (rest:=L) hc hS hT hH hu (λid ver hn hi=>hU id ver hn hi i (xcf)) hs1).1 cs;have hN':=xe5.1 hN
   obtain⟨⟨a2,E2,w2,k1,k2,k3,k4⟩,k5⟩:=run_ok hc L (s:=s1) (a:=a1) hN'.2 g4.sim g3 (hH.later hS g4.later) (xcq hu g4.next) (g4.used hu hU (by
    intro n hn j hj
    rw[hfc]
    rcases hn with hn|hn
    .exact hn j (xc9 _ hj)
    .rw[hn];intro e;exact hN'.1 ((by omega:i=j)▸hj))) h
   refine⟨⟨a2,E2,w2,Steps.trans g1 k1,k2.trans g2,k3,g4.trans k4 (λn hn=>⟨i,xcf,hn⟩) (λn ⟨j,hj,hn⟩=>⟨j,xc9 _ hj,by rw[hn,hfc]⟩)⟩,k5.trans hfc⟩
  .cases h
theorem x8v(hc:tO P call)(ho:C4 P pol){id:Nat}{draw:Bool}(h:wA P pol call c ops draw s=some s'):wZ P c (.region id ops draw) s .normal s':=by
 intro b a E w lim k cs it hit _ hp;obtain rfl:it=.code (.region id ops draw):=hit.elim (λh=>h) λ⟨_,e,_⟩=>(by cases e);unfold wA at h;split at h
 .rename_i s1 hrun;split at h
  .cases h
  .rename_i hd;cases h;have fin:∀(L:List Nat) (w0:World),(w0.heap=w.heap/\w0.os=w.os/\w0.output=w.output)->L.Nodup->(∀i∈L,i<ops.size)->sX P pol call c ops L s=some s1->step P (lone (b.atR a (.code (.region id ops draw)::k)) cs w)=.next (lone (b.atR a (.inRegion ops L::k)) cs w0) ->
    ∃a' E' w',Post P c lim b E w s E' w' {s1 with fc:=s.fc+ops.size} a'/\Arr P (lone (b.atR a (.code (.region id ops draw)::k)) cs w) b k cs a' w' .normal:=by
    intro L w0 ⟨hw0,hos,hout⟩ hN hL hr hstep;have hl0:Later E w E w0:=.of_heap hw0;have hm0:Moved E w s.st c.u (λ_=>False) E w0 s.st:=⟨hp.sim.of_heap hw0,hl0,xc7 _,λid ver h=>.inl ⟨ver,h⟩⟩;obtain⟨⟨a',E',w',g1,g2,g3,g4⟩,g5⟩:=run_ok (b:=b) (k:=k) (cs:=cs) hc L hN hm0.sim (hp.tm.past hl0.past) (hp.hs.later hp.sim hl0) hp.u (λid ver hn hi i _=>by have:=hp.used id ver hn hi;omega) hr;refine⟨a',E',w',hp.on (K:=λn=>∃i∈L,n=s.fc+i) (hm0.trans g4 (λ_ h=>h.elim) (λ_ h=>h)) (λn ⟨i,hi,hn⟩=>?_) (Nat.le_add_right _ _) g3 g2,Steps.head hstep (Steps.trans g1 (.one stepR_region_end))⟩;have:=hL i hi;simp only
    omega
   cases draw with
   |false=>exact fin (List.range ops.size) w ⟨rfl,rfl,rfl⟩ xfm (λi hi=>xcs.1 hi) hrun stepR_region
   |true=>have hd':zO P ops s1.sl=false/\l7 P pol c s.fc s.st.next ops s1.sl=true:=(by cases h1:zO P ops s1.sl<;>cases h2:l7 P pol c s.fc s.st.next ops s1.sl<;>simp[h1,h2]at hd ⊢);obtain⟨h1,h2,h3⟩:=ho call hc c ops s s1 E w a.tmps hp.sim hp.tm hp.hs hp.u hp.used hrun hd'.1 hd'.2 (w.tape w.drawn (.order b.fn id));exact fin _ {w with drawn:=w.drawn+1} ⟨rfl,rfl,rfl⟩ h1 h2 h3 stepR_region_draw
 .cases h
theorem exit_code{x:Code}{id:Nat}:exitTo id (.code x::k)=exitTo id k:=rfl
theorem x8w{x:Code}{id:Nat}:exitTo id (.inLoop x::k)=exitTo id k:=rfl
theorem x8x{id id':Nat}:exitTo id (.inBlock id'::k)=if id'=id then some k else exitTo id k:=by simp[exitTo]
theorem Arr.weaken{m:Machine}{k k':List Item}{o:Out}(h:Arr P m b k cs a' w' o)(hn:o≠.normal)(hk:∀id,o=.exit id->exitTo id k=exitTo id k'):Arr P m b k' cs a' w' o:=by
 cases o with
 |normal=>exact absurd rfl hn
 |exit id=>obtain⟨k1,h1,h2⟩:=h;exact⟨k1,h1.trans (hk id rfl),h2⟩
 |ret=>exact h
theorem Post.size{lim:Nat}(h:Post P c lim b E w s E' w' s' a')(hl:lim<=w.heap.size):lim<=w'.heap.size:=xd4 hl h.moved.later.ext.size
variable{low:Ctx->Code->S->Option (Out×S)}
def RangeOK(P:Program)(low:Ctx->Code->S->Option (Out×S))(call:Hs->FuncId->List AV->St->Option (AV×St)):Prop:=
 ∀(pol:Pol) (f:Operand) (params:Array Tmp) (assign body:Code) (c:Ctx) (s s':S) (o:Out),rS P pol low call c (.rangeFunc f params assign body) s=some (o,s')->wZ P c (.rangeFunc f params assign body) s o s'
theorem xP(hc:tO P call)(ho:C4 P pol)(hlow:∀c code s o s',low c code s=some (o,s')->wZ P c code s o s')(hr:RangeOK P low call) :
 ∀(code:Code) {c:Ctx} {s s':S} {o:Out},rS P pol low call c code s=some (o,s')->wZ P c code s o s'
 | .skip,c,s,s',o,h=>by intro b a E w lim k cs it hit _ hp;obtain rfl:it=.code .skip:=hit.elim (λh=>h) λ⟨_,e,_⟩=>(by cases e);simp[rS]at h;obtain⟨rfl,rfl⟩:=h;exact⟨a,E,w,.refl hp,Steps.one stepR_skip⟩
 | .region id ops draw,c,s,s',o,h=>by simp only[rS,xc5,xc3]at h;obtain⟨s1,h1,rfl,rfl⟩:=h;exact x8v hc ho h1
 | .seq x y,c,s,s',o,h=>by
   intro b a E w lim k cs it hit hl hp;obtain rfl:it=.code (.seq x y):=hit.elim (λh=>h) λ⟨_,e,_⟩=>(by cases e);simp only[rS]at h;split at h
   .rename_i s1 h1;obtain⟨a1,E1,w1,g1,g2⟩:=xP hc ho hlow hr x h1 b a E w lim (.code y::k) cs _ (.inl rfl) hl hp;obtain⟨a2,E2,w2,g3,g4⟩:=xP hc ho hlow hr y h b a1 E1 w1 lim k cs _ (.inl rfl) (g1.size hl) g1.pre;exact⟨a2,E2,w2,g1.trans g3,.head (Steps.head stepR_seq g2) g4⟩
   .rename_i hn;have hno:o≠.normal:=(by rintro rfl;exact hn s' h);obtain⟨a1,E1,w1,g1,g2⟩:=xP hc ho hlow hr x h b a E w lim (.code y::k) cs _ (.inl rfl) hl hp;exact⟨a1,E1,w1,g1,.head (.one stepR_seq) (g2.weaken hno λ_ _=>exit_code)⟩
 | .cond q x y,c,s,s',o,h=>by
   intro b a E w lim k cs it hit hl hp;obtain rfl:it=.code (.cond q x y):=hit.elim (λh=>h) λ⟨_,e,_⟩=>(by cases e);have hv:=hp.tm.ev (a:=a) q;simp only[rS]at h;split at h
   .rename_i e;rw[e]at hv;obtain⟨a1,E1,w1,g1,g2⟩:=xP hc ho hlow hr x h b a E w lim k cs _ (.inl rfl) hl hp;exact⟨a1,E1,w1,g1,.head (.one (stepR_cond (t:=true) (uK hv))) g2⟩
   .rename_i e;rw[e]at hv;obtain⟨a1,E1,w1,g1,g2⟩:=xP hc ho hlow hr y h b a E w lim k cs _ (.inl rfl) hl hp;exact⟨a1,E1,w1,g1,.head (.one (stepR_cond (t:=false) (uK hv))) g2⟩
   .cases h
 | .block id x,c,s,s',o,h=>by
   intro b a E w lim k cs it hit hl hp;obtain rfl:it=.code (.block id x):=hit.elim (λh=>h) λ⟨_,e,_⟩=>(by cases e);simp only[rS]at h;split at h
   .rename_i id' s1 h1;obtain⟨a1,E1,w1,g1,k1,g2,g3⟩:=xP hc ho hlow hr x h1 b a E w lim (.inBlock id::k) cs _ (.inl rfl) hl hp;rw[x8x]at g2;split at h
    .rename_i e;cases h;rw[xc2 e.symm]at g2;exact⟨a1,E1,w1,g1,Steps.head stepR_block (Steps.trans g3 (.one (stepR_exit g2)))⟩
    .rename_i e;cases h;rw[xc1 (Ne.symm e)]at g2;exact⟨a1,E1,w1,g1,k1,g2,Steps.head stepR_block g3⟩
   .rename_i hn;obtain⟨a1,E1,w1,g1,g2⟩:=xP hc ho hlow hr x h b a E w lim (.inBlock id::k) cs _ (.inl rfl) hl hp;refine⟨a1,E1,w1,g1,.head (.one stepR_block) ?_⟩;cases o with
    |normal=>exact Steps.trans g2 (.one stepR_inBlock)
    |exit id'=>exact absurd h (hn id' s')
    |ret=>exact g2
 | .loop x,c,s,s',o,h=>by
   intro b a E w lim k cs it hit hl hp;have hst:step P (lone (b.atR a (it::k)) cs w)=.next (lone (b.atR a (.code x::.inLoop x::k)) cs w):=by
    rcases hit with rfl|⟨b0,e,rfl⟩
    .exact stepR_loop
    .cases e;exact stepR_inLoop
   simp only[rS]at h;split at h
   .rename_i s1 h1;obtain⟨a1,E1,w1,g1,g2⟩:=xP hc ho hlow hr x h1 b a E w lim (.inLoop x::k) cs _ (.inl rfl) hl hp;obtain⟨a2,E2,w2,g3,g4⟩:=hlow _ _ _ _ _ h b a1 E1 w1 lim k cs (.inLoop x) (.inr ⟨x,rfl,rfl⟩) (g1.size hl) g1.pre;exact⟨a2,E2,w2,g1.trans g3,.head (Steps.head hst g2) g4⟩
   .rename_i hn;have hno:o≠.normal:=(by rintro rfl;exact hn s' h);obtain⟨a1,E1,w1,g1,g2⟩:=xP hc ho hlow hr x h b a E w lim (.inLoop x::k) cs _ (.inl rfl) hl hp;exact⟨a1,E1,w1,g1,.head (.one hst) (g2.weaken hno λ_ _=>x8w)⟩
 | .exit id,c,s,s',o,h=>by intro b a E w lim k cs it hit _ hp;obtain rfl:it=.code (.exit id):=hit.elim (λh=>h) λ⟨_,e,_⟩=>(by cases e);simp[rS]at h;obtain⟨rfl,rfl⟩:=h;exact⟨a,E,w,.refl hp,k,rfl,.refl _ _⟩
 | .ret,c,s,s',o,h=>by intro b a E w lim k cs it hit _ hp;obtain rfl:it=.code .ret:=hit.elim (λh=>h) λ⟨_,e,_⟩=>(by cases e);simp[rS]at h;obtain⟨rfl,rfl⟩:=h;exact⟨a,E,w,.refl hp,k,.refl _ _⟩
 | .rangeFunc f ps x y,c,s,s',o,h=>hr pol f ps x y c s s' o h
 | .scope _,c,s,s',o,h=>by simp[rS]at h
 | .goto _,c,s,s',o,h=>by simp[rS]at h
 | .label _,c,s,s',o,h=>by simp[rS]at h
 | .refuse _,c,s,s',o,h=>by simp[rS]at h
end
section
variable{P:Program}{E:Env}{w:World}{st:St}
theorem x56{lim:Nat}:∀(ds:List Deferred) {w:World} {fr:Frame} {cs:List Frame},fr.mode=.returning->fr.defers=ds->Marks lim E w ds->Sim E w st ->
 ∃w',Steps P (lone fr cs w) (lone {fr with defers:=[]} cs w')/\Sim E w' st/\Past E w E w'/\w'.heap.size=w.heap.size/\∀b,b<lim->w'.heap[b]?=w.heap[b]?
 |[],w,fr,cs,_,hd,_,hS=>by refine⟨w,?_,hS,.refl _ _,rfl,λ_ _=>rfl⟩;have:({fr with defers:=[]}:Frame)=fr:=(by cases fr;simp at hd;subst hd;rfl);rw[this];exact .refl _ _
 |d::ds,w,fr,cs,hm,hd,⟨h1,r,h2,h3,h4,h5⟩,hS=>by
  have hk:=x8u (P:=P) h4.2.2;have hstep:=step_collected (cs:=cs) (by rw[hm];simp) hd h2 hk;obtain⟨g1,g2,g3,g4⟩:=h4.set hS (w':={w with heap:=w.heap.setIfInBounds r (.deferred none)}) rfl (by intro c t f e;cases e) (by intro c t f e;cases e);have hM:∀{ds:List Deferred},(∀d'∈ds,d'.target≠.collected r)->Marks lim E w ds->Marks lim E {w with heap:=w.heap.setIfInBounds r (.deferred none)} ds:=by
   intro ds;induction ds with
   |nil=>exact λ_ _=>trivial
   |cons d0 ds ih=>intro hne hM;obtain⟨k1,r0,k2,k3,k4,k5⟩:=hM;refine⟨ih (λd' hd'=>hne d' (xc9 _ hd')) k1,r0,k2,k3,⟨k4.1,k4.2.1,?_⟩,k5⟩;rw[g4 r0 (by rintro rfl;exact hne d0 (xcf) k2)];exact k4.2.2
  obtain⟨w',q1,q2,q3,q4,q5⟩:=x56 ds (fr:={fr with defers:=[]++ds}) (cs:=cs) hm rfl (hM h5 h1) g1;refine⟨w',Steps.head hstep q1,q2,g2.trans q3,by rw[q4];simp,λb hb=>?_⟩;rw[q5 b hb];exact g4 b (by omega)
def rv(tmps:Array Value):ResultVar->Sem Value
 | .tmp t=>pure (tmps.getD t undef)
 | .cell a t=>do loadVar t (<-asAddr (tmps.getD a undef))
theorem P7{nt:Nat}{s:S}{tmps:Array Value}(hS:Sim E w s.st)(hT:Tm E w nt s.sl tmps):∀(rs:List ResultVar) {l:List AV},wB P rs s=some l ->
 ∃us:List Value,(rs.mapM (rv tmps)).run P w=.ok us w/\us.length=l.length/\∀(i:Nat) (a:AV) (v:Value),l[i]?=some a->us[i]?=some v->E.V w a v
 |[],l,h=>by simp[wB]at h;subst h;exact⟨[],rfl,rfl,λi a v ha=>by simp at ha⟩
 | .tmp t::rs,l,h=>by
   simp only[wB]at h;split at h
   .rename_i l' hl';cases h;obtain⟨us,h1,h2,h3⟩:=P7 hS hT rs hl';refine⟨tmps.getD t undef::us,?_,by simp[h2],λi a v ha hv=>?_⟩
    .rw[xcx];simp only[rv,Sem.run_bind,Sem.run_pure,Result.andThen_ok,h1]
    .cases i with
     |zero=>simp at ha hv;subst ha hv;have:=hT.val t;rwa[xdd]at this
     |succ i=>exact h3 i a v (by simpa using ha) (by simpa using hv)
   .cases h
 | .cell x t::rs,l,h=>by
   simp only[wB]at h;split at h
   .rename_i g z id ver off hty hx;split at h
    .rename_i cs vv fr hob;split at h
     .rename_i hver;split at h
      .rename_i r l' hr hl';cases h;subst hver;obtain⟨us,h1,h2,h3⟩:=P7 hS hT rs hl';have hV:=hT.val x;rw[hx]at hV;obtain⟨blk,base,len,hη,e⟩:=xO hV;obtain⟨_,_,arr,tt,k3,k4,k5,_⟩:=zR hS hob hη
       obtain⟨u,hu,hV'⟩:=N7 (P:=P) (F:=E.F) (w:=w) (η:=E.η) (ζ:=E.ζ.1) (b:=blk) (o:=base+off) hty hr (λi b hb=>by
        rw[xdq]at hb
        obtain⟨v,h1,h2,_⟩:=k5 _ _ hb
        exact⟨v,by rw[B8 k3,xde];exact h1,h2⟩)
       refine⟨u::us,?_,by simp[h2],λi a v ha hv=>?_⟩
       .rw[xcx];simp only[rv,Sem.run_bind,e,asAddr,Sem.run_pure,Result.andThen_ok,hu,h1]
       .cases i with
        |zero=>simp at ha hv;subst ha hv;exact hV'
        |succ i=>exact h3 i a v (by simpa using ha) (by simpa using hv)
      .cases h
     .cases h
    .cases h
   .cases h
theorem x57:∀{l:List AV} {us:List Value},sO l=some us->us.length=l.length/\∀(i:Nat) (a:AV),l[i]?=some a->∃v,us[i]?=some v/\rA a=some v
 |[],us,h=>by simp[sO]at h;subst h;exact⟨rfl,λi a ha=>by simp at ha⟩
 |x::r,us,h=>by
  simp only[sO]at h;split at h
  .rename_i v vs h1 h2;cases h;obtain⟨g1,g2⟩:=x57 h2;refine⟨by simp[g1],λi a ha=>?_⟩;cases i with
   |zero=>simp at ha;subst ha;exact⟨v,rfl,h1⟩
   |succ i=>simpa using g2 i a (by simpa using ha)
  .cases h
theorem x8y{args:List AV}{vs:Array Value}{us:List Value}(hA:ArgsV E w args vs)(h:sO args=some us):vs=us.toArray:=by
 obtain⟨g1,g2⟩:=x57 h;refine Array.ext (by simp[hA.1,g1]) λi h1 h2=>?_
 have hi:i<args.length:=(by rw[<-hA.1];exact h1);obtain⟨v,e1,e2⟩:=g2 i args[i] (xci hi);have hV:=hA.2 i args[i] vs[i] (xci hi) (xcl h1);have:=uJ hV e2;rw[this];have h2':i<us.length:=(by simpa using h2);rw[xci h2']at e1;simpa using(xdn e1).symm
def o5(P:Program)(pol:Pol):Prop:=∀(E:Env) (w:World) (st:St) (f:FuncId) (args:List AV) (vs:Array Value) (r:AV) (st':St),pol f tD≠0->n7 P w->Sim E w st->ArgsV E w args vs->tellB (pol f tD) args st=some (r,st') ->
 uM P f/\wY P E w st f vs r st'
theorem body_ok{pol:Pol}(ht:o5 P pol){code':Ctx->Code->S->Option (Out×S)}(hcode:∀c code s o s',code' c code s=some (o,s')->wZ P c code s o s'):tO P (wV P pol code'):=by
 intro hs f args st r st' h E w vs hS hA hH;unfold wV at h;split at h
 .rename_i hp;obtain⟨g1,g2⟩:=ht E w st f args vs r st' hp (hH.z w (hS.gl w (Ext.refl _ _))) hS hA h;exact⟨.inl g1,g2⟩
 split at h
 .rename_i fn hfn;split at h
  .rename_i body hbody;split at h
   .rename_i hcond;obtain⟨hname,hlen⟩:=hcond;have hb0:uM P f:=⟨fn,hfn,by simp[hbody],hname⟩;refine⟨.inl hb0,λcs=>?_⟩;split at h
    .cases h
    .rename_i o s' hne hrun;let b:Frame:={ (default:Frame)with fn:=f,kind:=.normal,roundOf:=none}
     let a:Act:={tmps:=vs++Array.replicate (fn.ntmps-vs.size) undef,defers:=[]}
     have henter:Frame.enter P f vs .normal=b.atR a [.code body]:=(by simp[Frame.enter,Frame.atR,hfn,hbody,a,b]);have hpre:Pre P {f:=f,u:=st.next,nt:=fn.ntmps,hs:=hs} w.heap.size b E w {sl:=vF args,st:={st with next:=st.next+1},fc:=0} a:=by
      refine⟨hS.next rfl (xev _),⟨by simp[a,hA.1];omega,λt=>?_⟩,hH,xec _,λid ver hn hi=>?_,rfl,λl hl=>by simp[b]at hl,trivial⟩
      .rw[xdd];show E.V w (args.getD t (.sc undef)) _;simp only[a];rw[xcg];by_cases ht:t<args.length
       .rw[xfk (by rw[hA.1];exact ht),xci ht,xcl (by rw[hA.1];exact ht)];exact hA.2 t _ _ (xci ht) (xcl (by rw[hA.1];exact ht))
       .rw[xef (by omega),xg2 (by rw[hA.1];omega),xg3];split<;>exact .sc undef
      .simp only at hi;cases he:E.η id ver with
       |none=>exact absurd he hn
       |some x=>have:=hS.dom _ _ _ he;omega
     obtain⟨a',E',w',hpost,harr⟩:=hcode _ _ _ _ _ hrun b a E w w.heap.size [] cs _ (.inl rfl) (xc7 _) hpre;have hret:∃T,Steps P (lone (Frame.enter P f vs .normal) cs w) (lone {b.atR a' T with mode:=.returning} cs w'):=by
      rw[henter];cases o with
      |normal=>exact⟨[],Steps.trans harr (.one (stepR_end rfl))⟩
      |exit id=>exact(hne id rfl).elim
      |ret=>obtain⟨k1,hk⟩:=harr;exact⟨.code .ret::k1,Steps.trans hk (.one (stepR_ret rfl))⟩
     obtain⟨T,hsteps⟩:=hret;obtain⟨w'',q1,q2,q3,q4,q5⟩:=x56 (P:=P) a'.defers (fr:={b.atR a' T with mode:=.returning}) (cs:=cs) rfl rfl hpost.pre.marks hpost.pre.sim;have hT:=hpost.pre.tm.past q3;have key:∀l,wB P fn.results.toList s'=some l->∃us:List Value,us.length=l.length/\(∀(i:Nat) (a:AV) (v:Value),l[i]?=some a->us[i]?=some v->E'.V w'' a v)/\(results fn a'.tmps).run P w''=.ok (if h:us.length=1 then us[0]else .tuple us.toArray) w'':=(by intro l hl;obtain⟨us,h1,h2,h3⟩:=P7 (P:=P) q2 hT _ hl;refine⟨us,h2,h3,?_⟩;have hrv:results fn a'.tmps=(do let vs <-fn.results.mapM (rv a'.tmps);pure (if h:vs.size=1 then vs[0]else .tuple vs)):=(by unfold results;congr 1);rw[hrv,xgn];simp only[Sem.run_bind,Sem.run_map,h1,Result.andThen_ok,Sem.run_pure,List.size_toArray,List.getElem_toArray]);have hafter:After E w st E' w'' s'.st:=by
      refine⟨q2,?_,xd4 (xev _) hpost.moved.next,λid ver hn=>?_⟩
      .have l:=hpost.moved.later;refine⟨l.η,l.F,l.newF,l.newO,l.X,l.newX,l.ζ,⟨by rw[q4];exact l.ext.size,λb hb=>?_,λb hg hb=>?_,q3.ext.os.trans l.ext.os,q3.ext.out.trans l.ext.out⟩,λb r e=>let⟨x,ex,m⟩:=l.lsh b r e;⟨x,by rw[q5 b (l8 e)];exact ex,m⟩,l.lock⟩
       .rw[<-l.ext.shape b hb];unfold World.shape?;rw[q5 b hb]
       .rw[q5 b hb];exact l.ext.same b hg hb
      .rcases hpost.moved.dom id ver hn with g|g|⟨g,_⟩
       .exact .inl g
       .exact .inr (by simp only at g;omega)
       .exact .inr (by simp only at g;omega)
     have fin:∀u,(results fn a'.tmps).run P w''=.ok u w''->E'.V w'' r u->st'=s'.st->∃E' w' u,P1 P f vs w cs w' u/\E'.V w' r u/\After E w st E' w' st':=(by intro u hu hV hst;subst hst;exact⟨E',w'',u,.inl ⟨hb0,_,Steps.trans hsteps q1,rfl,⟨rfl,rfl,rfl,fn,hfn,hu⟩⟩,hV,hafter⟩);split at h
     .rename_i v hres;cases h;obtain⟨us,k1,k2,k3⟩:=key _ hres;match us,k1,k2,k3 with
      |[u],_,k2,k3=>exact fin u k3 (k2 0 _ _ rfl rfl) rfl
     .rename_i l hn hres;cases h;obtain⟨us,k1,k2,k3⟩:=key _ hres;have hn1:us.length≠1:=(by intro e;obtain⟨x,hx⟩:=List.length_eq_one_iff.1 (show l.length=1 by omega);exact hn x hx);rw[dif_neg hn1]at k3;exact fin _ k3 (.tup _ _ (by simpa using k1) λi a v ha hv=>k2 i a v ha (by simpa using hv)) rfl
     .cases h
    .cases h
   .cases h
  .rename_i hbody;simp only[xc5,xc3]at h;obtain⟨r0,hr,rfl,rfl⟩:=h;have hnb:¬uM P f:=(by rintro⟨fn',h1,h2,-⟩;rw[hfn]at h1;cases h1;simp[hbody]at h2);unfold sExtn at hr;split at hr
   .rename_i r1 h0;cases hr;unfold ext0 at h0;split at h0
    .rename_i us hus;split at h0
     .rename_i u hu;cases h0;have hv:=x8y hA hus;refine⟨.inr (x4h hus),λcs=>⟨E,w,u,.inr ⟨hnb,?_⟩,B7 u,After.refl hS⟩⟩;rw[hv];exact yM hu w
     .cases h0
    .cases h0
   .obtain⟨⟨vs0,hvs0⟩,h2⟩:=x4i hr;obtain⟨hA1,hA2⟩:=hA;obtain⟨u,n,hrun,hV⟩:=h2 E.F w E.η E.ζ.1 vs.toList (by simp[hA1]) (λi a u ha hu=>hA2 i a u ha (by simpa using hu));refine⟨.inr (x4g hvs0),λcs=>⟨E,{w with drawn:=n},u,.inr ⟨hnb,?_⟩,hV _ _ _ _,⟨Sim.of_heap (w:=w) rfl hS,.of_heap rfl,xc7 _,λid ver h=>.inl ⟨ver,h⟩⟩⟩⟩;have hrun':(callFunc f vs >>= extK).run P w=.ok u {w with drawn:=n}:=(by have e:vs.toList.toArray=vs:=Array.toArray_toList;rw[<-e];exact hrun);rw[Sem.run_bind]at hrun';cases h1:(callFunc f vs).run P w with
    |halt h w1=>rw[h1]at hrun';cases hrun'
    |ok nx w1=>
     rw[h1]at hrun';cases nx with
     |value u'=>have h3:(Sem.pure u':Sem Value).run P w1=.ok u {w with drawn:=n}:=hrun';simp only[Sem.run,Result.ok.injEq]at h3;obtain⟨rfl,rfl⟩:=h3;rfl
     |_=>have h3:(Sem.halt (.stuck ""):Sem Value).run P w1=.ok u {w with drawn:=n}:=hrun';cases h3
 .cases h
end
section
variable{P:Program}{E:Env}{w:World}
theorem o6{st:St}(hS:Sim E w st):∀{hs:Hs},HsOK P hs E w->∀p∈hs,∃blk,E.η p.1 0=some (blk,0,0)/\blk<w.heap.size
 |[],_=>λp hp=>by simp at hp
 |_::_,⟨h1,blk,r,h2,h3,_⟩=>λp hp=>by
  rcases xce.1 hp with rfl|hp
  .exact⟨blk,h2,h3.lt hS⟩
  .exact o6 hS h1 p hp
theorem P8{nt:Nat}:∀(ps:List Tmp) (as:List AV) (us:List Value) {sl:Nat->AV} {tmps:Array Value},Tm E w nt sl tmps->as.length=ps.length->us.length=ps.length->(∀(i:Nat) (a:AV) (v:Value),as[i]?=some a->us[i]?=some v->E.V w a v)->(∀p∈ps,p<nt) ->
 Tm E w nt (uI ps as sl) ((ps.zip us).foldl (λtmps (t,a)=>tmps.setIfInBounds t a) tmps)
 |[],_,_,_,_,h,_,_,_,_=>by simpa[uI]using h
 |p::ps,a::as,u::us,sl,tmps,h,h1,h2,h3,h4=>by
  simp only[uI,List.zip_cons_cons,xeo];refine P8 ps as us ?_ (by simpa using h1) (by simpa using h2) (λi a v ha hv=>h3 (i+1) a v (by simpa using ha) (by simpa using hv)) (λq hq=>h4 q (xc9 _ hq));refine⟨by simp[h.size],λt=>?_⟩;simp only[upd];split
  .rename_i e;subst e;rw[xdd,xet (by rw[h.size];exact h4 _ (xcf))];exact h3 0 a u rfl rfl
  .rename_i e;have:=h.val t;rw[xdd]at this ⊢;rwa[xdj (Ne.symm e)]
 |_::_,[],_,_,_,_,h1,_,_,_=>by simp at h1
 |_::_,_::_,[],_,_,_,_,h2,_,_=>by simp at h2
theorem Marks.set{lim blk:Nat}{w':World}{r0:Loop}(hb:w.heap[blk]?=some (.loop r0))(hne:∀b',b'≠blk->w'.heap[b']?=w.heap[b']?):∀{ds:List Deferred},Marks lim E w ds->Marks lim E w' ds
 |[],_=>trivial
 |_::_,⟨h1,r,h2,h3,h4,h5⟩=>⟨h1.set hb hne,r,h2,h3,⟨h4.1,h4.2.1,by
   rw[hne r (by rintro rfl;have:=h4.2.2;rw[hb]at this;cases this)];exact h4.2.2⟩,h5⟩
theorem Later.around{E1 E2 E4:Env}{w1 w2 w3 w4 w5:World}{blk:Nat}(l1:Later E1 w1 E2 w2)(l2:Later E2 w3 E4 w4)(p2:Past E2 w2 E2 w3)(p4:Past E4 w4 E4 w5)(h3:w3.heap.size=w2.heap.size)(n3:∀b',b'≠blk->w3.heap[b']?=w2.heap[b']?)(n5:∀b',b'≠blk->w5.heap[b']?=w4.heap[b']?)(hb:w5.heap[blk]?=w1.heap[blk]?\/(¬E1.G blk/\∃r1 r5,w1.heap[blk]?=some (.loop r1)/\w5.heap[blk]?=some (.loop r5)/\uC r5=uC r1)):Later E1 w1 E4 w5:=by
 refine⟨λi v x h=>l2.η _ _ _ (l1.η _ _ _ h),λb h=>l2.F b (l1.F b h),λb h=>?_,λb i h=>?_,λb h=>l2.X b (l1.X b h),λb h=>?_,l2.ζ.trans l1.ζ,⟨xd4 l1.ext.size (by have:=l2.ext.size;have:=p4.ext.size;omega),λb h=>?_,λb hg h=>?_,p4.ext.os.trans (l2.ext.os.trans (p2.ext.os.trans l1.ext.os)),p4.ext.out.trans (l2.ext.out.trans (p2.ext.out.trans l1.ext.out))⟩,λb r e=>?_,λi ver x e ht g v=>?_⟩
 .rcases l2.newF b h with g|g|g
  .exact l1.newF b g
  .exact .inr (.inl (by have:=l1.ext.size;omega))
  .cases ho:E2.O b with
   |none=>exact absurd ho g
   |some i=>rcases l1.newO b i ho with g'|g'
            .exact .inr (.inr (by rw[g'];simp))
            .exact .inr (.inl g')
 .rcases l2.newO b i h with g|g
  .exact l1.newO b i g
  .exact .inr (by have:=l1.ext.size;omega)
 .rcases l2.newX b h with g|g
  .exact l1.newX b g
  .exact .inr (by have:=l1.ext.size;omega)
 .have h2:b<w2.heap.size:=xcq h l1.ext.size;have h4:b<w4.heap.size:=xcq (h3▸h2) l2.ext.size;rw[p4.ext.shape b h4,l2.ext.shape b (h3▸h2),p2.ext.shape b h2,l1.ext.shape b h]
 .by_cases e:b=blk
  .subst e;rcases hb with hb|⟨hb,_⟩
   .exact hb
   .exact absurd hg hb
  .have h2:b<w2.heap.size:=xcq h l1.ext.size;rw[n5 b e,l2.ext.same b (hg.imp (l1.F b) (l1.X b)) (h3▸h2),n3 b e,l1.ext.same b hg h]
 .by_cases eb:b=blk
  .subst eb;rcases hb with hb|⟨_,r1,r5,h1,h5,hn⟩
   .exact⟨r,by rw[hb];exact e,rfl⟩
   .rw[e]at h1;cases h1;exact⟨r5,h5,hn⟩
  .obtain⟨r2,e2,m2⟩:=l1.lsh b r e;obtain⟨r4,e4,m4⟩:=l2.lsh b r2 (by rw[n3 b eb];exact e2);exact⟨r4,by rw[n5 b eb];exact e4,m4.trans m2⟩
 .have h1:=l1.lock i ver x e ht g;rw[<-h1 v];exact l2.lock i ver x (by rw[h1];exact e) (λv hv=>by rw[h1];exact ht v hv) (g.imp (l1.F _) (l1.X _)) v
variable{low:Ctx->Code->S->Option (Out×S)}
def P9(low:Ctx->Code->S->Option (Out×S))(c:Ctx)(params:Array Tmp)(assign body:Code)(sl:Nat->AV):List AV->St->Option St:=λargs st=>
 if args.length=params.size/\params.all (· < c.nt)then
  let c':={c with u:=st.next}
  let s0:S:={sl:=uI params.toList args sl,st:={st with next:=st.next+1},fc:=0}
  match low c' assign s0 with
  |some (.normal,s1)=>match low c' body s1 with
   |some (.normal,s2)=>some s2.st
   |_=>none
  |_=>none
 else none
theorem round_ok(hlow:∀c code s o s',low c code s=some (o,s')->wZ P c code s o s'){c:Ctx}{blk:Nat}{r:Loop}{E0:Env}{w0:World}{sl:Nat->AV}(hT0:Tm E0 w0 c.nt sl r.tmps)(hr:r.state=.ready)(hp:r.pending=none)(hd:∀p∈c.hs,∃blk0,E0.η p.1 0=some (blk0,0,0)/\blk0≠blk){E1:Env}{w1:World}{st st':St}{args:List AV}{vs:Array Value}(hpast:Past E0 w0 E1 w1)(hS:Sim E1 w1 st)(hH:HsOK P c.hs E1 w1)(hh:Held E1 w1 blk (.loop r))(hA:ArgsV E1 w1 args vs)(h:P9 low c r.params r.assign r.body sl args st=some st') :
 ∃f tmps assign body,(Instr.yield blk vs).run P w1=.ok (.round blk f tmps assign body) w1 /\
  ∀(fr:Frame) (cs:List Frame),∃E' w',Steps P (lone (Frame.round blk f tmps assign body .normal) (fr::cs) w1) (lone (fr.finish (.bool true)) cs w')/\After E1 w1 st E' w' st':=by
 unfold P9 at h;split at h
 .rename_i hc;obtain⟨hlen,hall⟩:=hc;simp only at h;split at h
  .rename_i s1 h1;split at h
   .rename_i s2 h2;cases h;refine⟨_,_,_,_,x55 hh.2.2 (by rw[hA.1,hlen]),λfr cs=>?_⟩;let c':Ctx:={c with u:=st.next}
    let b:Frame:={ (default:Frame)with fn:=r.fn,kind:=.normal,roundOf:=some blk}
    let a:Act:={tmps:=(r.params.zip vs).foldl (λtmps (t,a)=>tmps.setIfInBounds t a) r.tmps,defers:=[]}
    have hb0:Frame.round blk r.fn ((r.params.zip vs).foldl (λtmps (t,a)=>tmps.setIfInBounds t a) r.tmps) r.assign r.body .normal=b.atR a [.code r.assign,.beginRound,.code r.body]:=(by simp[Frame.round,Frame.atR,b,a]);have hpre:Pre P c' w1.heap.size b E1 w1 {sl:=uI r.params.toList args sl,st:={st with next:=st.next+1},fc:=0} a:=by
     refine⟨hS.next rfl (xev _),?_,hH,xec _,λid ver hn hi=>?_,rfl,λl hl=>?_,trivial⟩
     .have:=P8 r.params.toList args vs.toList (hT0.past hpast) (by simpa using hlen) (by simpa[hlen]using hA.1) (λi a v ha hv=>hA.2 i a v ha (by simpa using hv)) (λp hp=>by
       have:=xfn.1 hall p (by simpa using hp)
       simpa using this)
      show Tm E1 w1 c.nt _ ((r.params.zip vs).foldl _ r.tmps);rwa[<-xg0,Array.toList_zip]
     .simp only[c']at hi;cases he:E1.η id ver with
      |none=>exact absurd he hn
      |some x=>have:=hS.dom _ _ _ he;omega
     .simp[b]at hl;subst hl;exact⟨r,hh.2.2⟩
    obtain⟨a2,E2,w2,q1,q2⟩:=hlow _ _ _ _ _ h1 b a E1 w1 w1.heap.size [.beginRound,.code r.body] (fr::cs) _ (.inl rfl) (xc7 _) hpre;have hh2:=hh.later hpre.sim q1.moved.later;have hd2:∀p∈c.hs,∀blk',E2.η p.1 0=some (blk',0,0)->blk'≠blk:=(by intro p hp blk' hb';obtain⟨blk0,e0,hne⟩:=hd p hp;have:=q1.moved.later.η _ _ _ (hpast.η _ _ _ e0);rw[hb']at this;cases this;exact hne);obtain⟨g1,g2,g3,g4⟩:=hh2.set q1.pre.sim (w':={w2 with heap:=w2.heap.setIfInBounds blk (.loop {r with state:=.busy})}) rfl (by intro c t f e;cases e) (by intro c t f e;cases e);have hpre2:Pre P c' w1.heap.size b E2 {w2 with heap:=w2.heap.setIfInBounds blk (.loop {r with state:=.busy})} s1 a2:=
     ⟨g1,q1.pre.tm.past g2,q1.pre.hs.set g2 g4 hd2,q1.pre.u,q1.pre.used,rfl,λl hl=>by simp[b]at hl;subst hl;exact⟨_,g3.2.2⟩,q1.pre.marks.set hh2.2.2 g4⟩
    obtain⟨a4,E4,w4,q3,q4⟩:=hlow _ _ _ _ _ h2 b a2 E2 _ w1.heap.size [] (fr::cs) _ (.inl rfl) (by simpa using q1.moved.later.ext.size) hpre2;have hh4:=g3.later hpre2.sim q3.moved.later;obtain⟨k1,k2,k3,k4⟩:=hh4.set q3.pre.sim (w':={w4 with heap:=w4.heap.setIfInBounds blk (.loop { {r with state:=.busy}with state:=.ready,pending:=none})}) rfl (by intro c t f e;cases e) (by intro c t f e;cases e);have er:({ {r with state:=.busy}with state:=.ready,pending:=none}:Loop)=r:=(by cases r;simp at hr hp;subst hr hp;rfl);rw[hb0];refine⟨E4,_,Steps.trans q2 (Steps.head (stepR_beginRound rfl (x54 hh2.2.2 hr)) (Steps.trans q4 (.one (stepR_round_end rfl rfl (x8r hh4.2.2))))),k1,?_,?_,?_⟩
    .refine Later.around q1.moved.later q3.moved.later g2 k2 (by simp) g4 k4 (.inl ?_);rw[k3.2.2,er,hh.2.2]
    .have e1:=q1.moved.next;have e2:=q3.moved.next;simp only at e1;omega
    .intro id ver hn;rcases q3.moved.dom id ver hn with ⟨v0,h0⟩|h0|⟨h0,_⟩
     .rcases q1.moved.dom id v0 h0 with g|g|⟨g,_⟩
      .exact .inl g
      .exact .inr (by simp only at g;omega)
      .exact .inr (by simp only[c']at g;omega)
     .have e1:=q1.moved.next;simp only at e1;exact .inr (by omega)
     .exact .inr (by simp only[c']at h0;omega)
   .cases h
  .cases h
 .cases h
theorem x8z{r r1:Loop}(h:uC r1=uC r)(hr:r.state=.ready)(hp:r.pending=none)(h1:r1.state≠.done)(h2:r1.pending=none):r1=r:=by cases r;cases r1;simp only at hr hp h1 h2;subst hr hp h2;simp only[uC,Loop.mk.injEq]at h ⊢;obtain⟨e1,-,e2⟩:=h;refine⟨?_,trivial,e2⟩;rename_i s _ _ _ _ _ _;cases s<;>simp_all
theorem norm_busy{r r1:Loop}(h:uC r1=uC {r with state:=.busy})(hp:r.pending=none)(h2:r1.pending=none):r1={r with state:=.busy}:=by cases r;cases r1;simp only at hp h2;subst hp h2;simp only[uC,Loop.mk.injEq]at h ⊢;obtain⟨e1,-,e2⟩:=h;refine⟨?_,trivial,e2⟩;rename_i s _ _ _ _ _ _;cases s<;>simp_all
theorem x58{r:Loop}(hr:r.state=.ready)(hp:r.pending=none):uC r=r:=by cases r;simp only at hr hp;subst hr hp;rfl
theorem round2_ok(hlow:∀c code s o s',low c code s=some (o,s')->wZ P c code s o s'){c:Ctx}{blk:Nat}{r:Loop}{id:Id}(hid:Nat.beq id.2.2 0=false){E0:Env}{w0:World}{sl:Nat->AV}(hη0:E0.η id 0=some (blk,0,0))(hT0:Tm E0 w0 c.nt sl r.tmps)(hr:r.state=.ready)(hp:r.pending=none)(hd:∀p∈c.hs,∃blk0,E0.η p.1 0=some (blk0,0,0)/\blk0≠blk){E1:Env}{w1:World}{st st':St}{args:List AV}{vs:Array Value}(hpast:Past E0 w0 E1 w1)(hS:Sim E1 w1 st)(hH:HsOK P c.hs E1 w1)(hh:∃r1,w1.heap[blk]?=some (.loop r1)/\uC r1=r)(hA:ArgsV E1 w1 args vs)(h:uW low c id r.params r.assign r.body sl args st=some st') :
 ∃f tmps assign body,(Instr.yield blk vs).run P w1=.ok (.round blk f tmps assign body) w1 /\
  ∀(fr:Frame) (cs:List Frame),∃E' w',Steps P (lone (Frame.round blk f tmps assign body .normal) (fr::cs) w1) (lone (fr.finish (.bool (vD st'.objs id))) cs w')/\After E1 w1 st E' w' st':=by
 obtain⟨r1,hb1,hn1⟩:=hh;have hn1':uC r1=uC r:=hn1.trans (x58 hr hp).symm;have hst:r1.fn=r.fn/\r1.tmps=r.tmps/\r1.params=r.params/\r1.assign=r.assign/\r1.body=r.body:=(by subst hn1;exact⟨rfl,rfl,rfl,rfl,rfl⟩);obtain⟨f1,f2,f3,f4,f5⟩:=hst;unfold uW at h;split at h
 .rename_i hc;obtain⟨hlen,hall⟩:=hc;split at h
  .rename_i s1 h1;split at h
   .rename_i hob1;split at h
    .rename_i o s2 h2;split at h
     .rename_i hob2;refine⟨_,_,_,_,x55 hb1 (by rw[hA.1,hlen,f3]),λfr cs=>?_⟩;rw[f1,f2,f3,f4,f5];let c':Ctx:={c with u:=st.next}
      let b:Frame:={ (default:Frame)with fn:=r.fn,kind:=.normal,roundOf:=some blk}
      let a:Act:={tmps:=(r.params.zip vs).foldl (λtmps (t,a)=>tmps.setIfInBounds t a) r.tmps,defers:=[]}
      have hb0:Frame.round blk r.fn ((r.params.zip vs).foldl (λtmps (t,a)=>tmps.setIfInBounds t a) r.tmps) r.assign r.body .normal=b.atR a [.code r.assign,.beginRound,.code r.body]:=(by simp[Frame.round,Frame.atR,b,a]);have hpre:Pre P c' w1.heap.size b E1 w1 {sl:=uI r.params.toList args sl,st:={st with next:=st.next+1},fc:=0} a:=by
       refine⟨hS.next rfl (xev _),?_,hH,xec _,λid ver hn hi=>?_,rfl,λl hl=>?_,trivial⟩
       .have:=P8 r.params.toList args vs.toList (hT0.past hpast) (by simpa using hlen) (by simpa[hlen]using hA.1) (λi a v ha hv=>hA.2 i a v ha (by simpa using hv)) (λp hp=>by
         have:=xfn.1 hall p (by simpa using hp)
         simpa using this)
        show Tm E1 w1 c.nt _ ((r.params.zip vs).foldl _ r.tmps);rwa[<-xg0,Array.toList_zip]
       .simp only[c']at hi;cases he:E1.η id ver with
        |none=>exact absurd he hn
        |some x=>have:=hS.dom _ _ _ he;omega
       .simp[b]at hl;subst hl;exact⟨r1,hb1⟩
      obtain⟨a2,E2,w2,q1,q2⟩:=hlow _ _ _ _ _ h1 b a E1 w1 w1.heap.size [.beginRound,.code r.body] (fr::cs) _ (.inl rfl) (xc7 _) hpre;have hη2:E2.η id 0=some (blk,0,0):=q1.moved.later.η _ _ _ (hpast.η _ _ _ hη0);obtain⟨ra,hra,hna⟩:=q1.moved.later.lsh _ _ hb1;obtain⟨_,rb,e1,_,e3,_,e5⟩:=q1.pre.sim.obj id _ hob1;rw[hη2]at e1;cases e1;rw[hra]at e3;cases e3;have hra2:ra=r:=x8z (hna.trans hn1') hr hp e5.1 e5.2;subst hra2;have hd2:∀p∈c.hs,∀blk',E2.η p.1 0=some (blk',0,0)->blk'≠blk:=(by intro p hp blk' hb';obtain⟨blk0,e0,hne⟩:=hd p hp;have:=q1.moved.later.η _ _ _ (hpast.η _ _ _ e0);rw[hb']at this;cases this;exact hne);obtain⟨g1,g2,g3,g4,g5⟩:=q1.pre.sim.lset (w':={w2 with heap:=w2.heap.setIfInBounds blk (.loop {ra with state:=.busy})}) (d':=none) hob1 hη2 hra rfl ⟨by simp,hp⟩;rw[P4 hob1]at g1;have hpre2:Pre P c' w1.heap.size b E2 {w2 with heap:=w2.heap.setIfInBounds blk (.loop {ra with state:=.busy})} s1 a2:=
       ⟨g1,q1.pre.tm.past g2,q1.pre.hs.set g2 g4 hd2,q1.pre.u,q1.pre.used,rfl,λl hl=>by simp[b]at hl;subst hl;exact⟨_,g3⟩,q1.pre.marks.set hra g4⟩
      obtain⟨a4,E4,w4,q3,q4⟩:=hlow _ _ _ _ _ h2 b a2 E2 _ w1.heap.size [] (fr::cs) _ (.inl rfl) (by simpa using q1.moved.later.ext.size) hpre2;have hη4:E4.η id 0=some (blk,0,0):=q3.moved.later.η _ _ _ hη2;obtain⟨rc,hrc,hnc⟩:=q3.moved.later.lsh _ _ g3;obtain⟨_,rd',e1,_,e3,_,e5⟩:=q3.pre.sim.obj id _ hob2;rw[hη4]at e1;cases e1;rw[hrc]at e3;cases e3;have hrc2:rc={ra with state:=.busy}:=norm_busy hnc hp e5.2;subst hrc2;have fin:∀(j:Option Code) (d':Option Out) (m:Machine),LpSt d' {ra with state:=if j.isNone then .ready else .done,pending:=j}->st'={s2.st with objs:=qM s2.st.objs id (some (.lp d'))}->vD st'.objs id=j.isNone ->
       Steps P m (lone (fr.finish (.bool j.isNone)) cs {w4 with heap:=w4.heap.setIfInBounds blk (.loop {ra with state:=if j.isNone then .ready else .done,pending:=j})}) ->
       ∃E' w',Steps P m (lone (fr.finish (.bool (vD st'.objs id))) cs w')/\After E1 w1 st E' w' st':=by
       intro j d' m hlp hst' hlv hsteps;obtain⟨k1,k2,k3,k4,k5⟩:=q3.pre.sim.lset (w':={w4 with heap:=w4.heap.setIfInBounds blk (.loop {ra with state:=if j.isNone then .ready else .done,pending:=j})}) (d':=d') hob2 hη4 hrc rfl hlp;rw[hlv];refine⟨E4,_,hsteps,by rw[hst'];exact k1,?_,?_,?_⟩
       .refine Later.around q1.moved.later q3.moved.later g2 k2 (by simp) g4 k4 (.inr ⟨?_,r1,_,hb1,k3,?_⟩)
        .intro hG;refine g5 ?_;rcases hG with hG|hG
         .exact .inl (q1.moved.later.F _ hG)
         .exact .inr (q1.moved.later.X _ hG)
        .rw[hn1'];unfold uC;rw[hr];cases j<;>rfl
       .have e1:=q1.moved.next;have e2:=q3.moved.next;rw[hst'];simp only at e1 ⊢;omega
       .intro id ver hn;rcases q3.moved.dom id ver hn with ⟨v0,h0⟩|h0|⟨h0,_⟩
        .rcases q1.moved.dom id v0 h0 with g|g|⟨g,_⟩
         .exact .inl g
         .exact .inr (by simp only at g;omega)
         .exact .inr (by simp only[c']at g;omega)
        .have e1:=q1.moved.next;simp only at e1;exact .inr (by omega)
        .exact .inr (by simp only[c']at h0;omega)
      have hbegin:=stepR_beginRound (P:=P) (b:=b) (a:=a2) (k:=[.code ra.body]) (cs:=fr::cs) (w:=w2) rfl (x54 hra hr);rw[hb0];cases o with
      |normal=>simp only[xc4]at h;subst h;refine fin none none _ ⟨by simp,rfl⟩ (by rw[P4 hob2]) (by unfold vD;rw[hid,hob2];rfl) ?_;exact Steps.trans q2 (Steps.head hbegin (Steps.trans q4 (.one (stepR_round_end rfl rfl (P5 hrc none)))))
      |exit i=>simp only[xc4]at h;subst h;obtain⟨kk,hk,hs4⟩:=q4;refine fin (some (.exit i)) (some (.exit i)) _ ⟨by simp,rfl⟩ rfl (by unfold vD;rw[hid];simp[qM]) ?_;exact Steps.trans q2 (Steps.head hbegin (Steps.trans hs4 (.one (stepR_round_exit rfl rfl hk (P5 hrc (some (.exit i)))))))
      |ret=>simp only[xc4]at h;subst h;obtain⟨kk,hs4⟩:=q4;refine fin (some .ret) (some .ret) _ ⟨by simp,rfl⟩ rfl (by unfold vD;rw[hid];simp[qM]) ?_;exact Steps.trans q2 (Steps.head hbegin (Steps.trans hs4 (.one (stepR_round_ret rfl rfl (P5 hrc (some .ret))))))
     .cases h
    .cases h
   .cases h
  .cases h
 .cases h
end
section
variable{P:Program}{low:Ctx->Code->S->Option (Out×S)}{call:Hs->FuncId->List AV->St->Option (AV×St)}
theorem Later.set{E E':Env}{w w3 w4:World}{blk:Nat}(l:Later E w E' w3)(hb:w.heap.size<=blk)(hs:w4.heap.size=w3.heap.size)(hn:∀b',b'≠blk->w4.heap[b']?=w3.heap[b']?)(hos:w4.os=w3.os:=by first|assumption|rfl)(hout:w4.output=w3.output:=by first|assumption|rfl):Later E w E' w4:=by
 refine⟨l.η,l.F,l.newF,l.newO,l.X,l.newX,l.ζ,⟨by rw[hs];exact l.ext.size,λb h=>?_,λb hg h=>?_,hos.trans l.ext.os,hout.trans l.ext.out⟩,λb r e=>let⟨r',e',m⟩:=l.lsh b r e;⟨r',by rw[hn b (by have:=l8 e;omega)];exact e',m⟩,l.lock⟩
 .rw[<-l.ext.shape b h];unfold World.shape?;rw[hn b (by omega)]
 .rw[hn b (by omega)];exact l.ext.same b hg h
theorem x59{lim:Nat}{E:Env}{w:World}{d:Deferred}{r:Nat}{ds:List Deferred}(hd:d.target=.collected r)(hl:lim<=r)(hh:Held E w r (.deferred (some [])))(hM:Marks lim E w ds)(hlt:∀d'∈ds,d'.target≠.collected r):Marks lim E w (d::ds):=
 ⟨hM,r,hd,hl,hh,hlt⟩
theorem Q0{lim:Nat}{E:Env}{w:World}{st:St}(hS:Sim E w st):∀{ds:List Deferred},Marks lim E w ds->∀d∈ds,d.target≠.collected w.heap.size
 |[],_=>λd hd=>by simp at hd
 |_::_,⟨h1,r,h2,_,h4,_⟩=>λd hd=>by
  rcases xce.1 hd with rfl|hd
  .rw[h2];intro e;cases e;exact absurd (hS.fin _ (.inr h4.1)) (xfo _)
  .exact Q0 hS h1 d hd
theorem I2{E:Env}{blk:Nat}{i:Id}{v:Nat}:(hold E blk none).η i v=E.η i v:=by simp[hold]
theorem x5a{E:Env}{blk:Nat}{id:Id}:(hold E blk (some id)).η id 0=some (blk,0,0):=by simp[hold]
theorem hold_ne{E:Env}{blk:Nat}{id i:Id}{v:Nat}(h:i≠id):(hold E blk (some id)).η i v=E.η i v:=by simp[hold,Ne.symm h]
def Laid(lim:Nat)(E:Env)(w:World)(s:S)(a:Act)(id:Id)(r:Loop->Prop)(l:Nat)(mark:List Deferred)(E2:Env)(w2:World):Prop:=
 Sim E2 w2 s.st/\Later E w E2 w2/\E2.η id 0=some (l,0,0)/\(∀i v,i≠id->E2.η i v=E.η i v)/\w.heap.size<=l/\Marks lim E2 w2 (mark++a.defers)/\∃rec,r rec/\Held E2 w2 l (.loop rec)
theorem enter_ok{c:Ctx}{lim:Nat}{b:Frame}{E:Env}{w:World}{s:S}{a:Act}{ps:Array Tmp}{assign body:Code}(hp:Pre P c lim b E w s a)(hl:lim<=w.heap.size){id:Id}(hid:id.1<s.st.next)(hf:∀ver,E.η id ver=none) :
 ∃l mark w2 E2,(Instr.enterLoop b.fn a.tmps ps assign body b.roundOf).run P w=.ok (l,mark) w2 /\
  Laid lim E w s a id (λr=>r.state=.ready/\r.pending=none/\r.tmps=a.tmps/\r.params=ps/\r.assign=assign/\r.body=body) l mark E2 w2:=by
 cases hr:b.roundOf with
 |none=>
  let rec1:Loop:={state:=.ready,pending:=none,fn:=b.fn,tmps:=a.tmps,params:=ps,assign,body,defers:=w.heap.size}
  let w1:World:={w with heap:=w.heap.push (.deferred (some []))}
  let w2:World:={w1 with heap:=w1.heap.push (.loop rec1)}
  obtain⟨h1,h2,h3⟩:=hp.sim.hold (w':=w1) (o:=.deferred (some [])) (nm:=none) rfl (λ_ e=>by cases e)
  obtain⟨k1,k2,k3⟩:=h1.hold (w':=w2) (o:=.loop rec1) (nm:=some id) rfl (λi e=>by
   cases e
   exact⟨hid,λver=>by rw[I2];exact hf ver⟩)
  refine⟨w1.heap.size,[{target:=.collected w.heap.size,args:=#[]}],w2,_,?_,k1,h2.trans k2,?_,λi v hne=>?_,by simp[w1],?_,rec1,⟨rfl,rfl,rfl,rfl,rfl,rfl⟩,k3⟩
  .simp[Instr.enterLoop,w1,w2,rec1]
  .exact x5a
  .rw[hold_ne hne,I2]
  .exact x59 rfl hl (h3.later h1 k2) (hp.marks.later hp.sim (h2.trans k2)) (Q0 hp.sim hp.marks)
 |some lr=>
  obtain⟨r0,hr0⟩:=hp.round lr hr;let rec1:Loop:={state:=.ready,pending:=none,fn:=b.fn,tmps:=a.tmps,params:=ps,assign,body,defers:=r0.defers}
  let w2:World:={w with heap:=w.heap.push (.loop rec1)}
  obtain⟨k1,k2,k3⟩:=hp.sim.hold (w':=w2) (o:=.loop rec1) (nm:=some id) rfl (λi e=>by cases e;exact⟨hid,hf⟩);refine⟨w.heap.size,[],w2,_,?_,k1,k2,?_,λi v hne=>?_,xc7 _,hp.marks.later hp.sim k2,rec1,⟨rfl,rfl,rfl,rfl,rfl,rfl⟩,k3⟩
  .simp[Instr.enterLoop,zW hr0,w2,rec1]
  .exact x5a
  .rw[hold_ne hne]
theorem enter2_ok{c:Ctx}{lim:Nat}{b:Frame}{E:Env}{w:World}{s:S}{a:Act}{ps:Array Tmp}{assign body:Code}(hp:Pre P c lim b E w s a)(hl:lim<=w.heap.size){id:Id}(hid:id.1<s.st.next)(hf:∀ver,E.η id ver=none) :
 ∃l mark w2 E2 rec,(Instr.enterLoop b.fn a.tmps ps assign body b.roundOf).run P w=.ok (l,mark) w2/\Sim E2 w2 {s.st with objs:=qM s.st.objs id (some (.lp none))}/\Later E w E2 w2/\E2.η id 0=some (l,0,0)/\(∀i v,i≠id->E2.η i v=E.η i v) /\
  w.heap.size<=l/\Marks lim E2 w2 (mark++a.defers)/\w2.heap[l]?=some (.loop rec)/\rec.state=.ready/\rec.pending=none/\rec.tmps=a.tmps/\rec.params=ps/\rec.assign=assign/\rec.body=body:=by
 cases hr:b.roundOf with
 |none=>
  let rec1:Loop:={state:=.ready,pending:=none,fn:=b.fn,tmps:=a.tmps,params:=ps,assign,body,defers:=w.heap.size}
  let w1:World:={w with heap:=w.heap.push (.deferred (some []))}
  let w2:World:={w1 with heap:=w1.heap.push (.loop rec1)}
  obtain⟨h1,h2,h3⟩:=hp.sim.hold (w':=w1) (o:=.deferred (some [])) (nm:=none) rfl (λ_ e=>by cases e);obtain⟨E2,k1,k2,k3,k4,k5⟩:=h1.lnew (w':=w2) (r:=rec1) hid (λver=>by rw[I2];exact hf ver) rfl rfl rfl;refine⟨w1.heap.size,[{target:=.collected w.heap.size,args:=#[]}],w2,E2,rec1,?_,k1,h2.trans k2,k3,λi v hne=>?_,by simp[w1],?_,k5,rfl,rfl,rfl,rfl,rfl,rfl⟩
  .simp[Instr.enterLoop,w1,w2,rec1]
  .rw[k4 i v hne,I2]
  .exact x59 rfl hl (h3.later h1 k2) (hp.marks.later hp.sim (h2.trans k2)) (Q0 hp.sim hp.marks)
 |some lr=>
  obtain⟨r0,hr0⟩:=hp.round lr hr;let rec1:Loop:={state:=.ready,pending:=none,fn:=b.fn,tmps:=a.tmps,params:=ps,assign,body,defers:=r0.defers}
  let w2:World:={w with heap:=w.heap.push (.loop rec1)}
  obtain⟨E2,k1,k2,k3,k4,k5⟩:=hp.sim.lnew (w':=w2) (r:=rec1) hid hf rfl rfl rfl;refine⟨w.heap.size,[],w2,E2,rec1,?_,k1,k2,k3,k4,xc7 _,hp.marks.later hp.sim k2,k5,rfl,rfl,rfl,rfl,rfl,rfl⟩;simp[Instr.enterLoop,zW hr0,w2,rec1]
theorem x5b(hc:tO P call)(hlow:∀c code s o s',low c code s=some (o,s')->wZ P c code s o s'){f:Operand}{ps:Array Tmp}{assign body:Code}{c:Ctx}{s:S}{g:FuncId}{caps:List AV}{r:AV}{st':St}{o:Out}{d:Option Out}(hfv:ev s.sl f=.clo g caps)(hcall:call (((c.u,s.fc,1),uW low c (c.u,s.fc,1) ps assign body s.sl)::c.hs) g (.yld (c.u,s.fc,1)::caps) {s.st with objs:=qM s.st.objs (c.u,s.fc,1) (some (.lp none))}=some (r,st'))(hob:st'.objs (c.u,s.fc,1)=some (.lp d))(hd:d=none/\o=.normal\/d=some o):wZ P c (.rangeFunc f ps assign body) s o {s with st:=st',fc:=s.fc+1}:=by
 intro b a E w lim k cs it hit hl hp;obtain rfl:it=.code (.rangeFunc f ps assign body):=hit.elim (λh=>h) λ⟨_,e,_⟩=>(by cases e);have hV:=hp.tm.ev (a:=a) f;rw[hfv]at hV;have hfr:∀ver,E.η (c.u,s.fc,1) ver=none:=λver=>by
  cases he:E.η (c.u,s.fc,1) ver with
  |none=>rfl
  |some x=>have:=hp.used _ ver (by rw[he];simp) rfl;simp at this
 obtain⟨l,mark,w2,E2,rec,he,k1,k2,k3,k4,k5,k6,k7,r1,r2,r3,r4,r5,r6⟩:=enter2_ok (ps:=ps) (assign:=assign) (body:=body) hp hl (id:=(c.u,s.fc,1)) hp.u hfr;obtain⟨cvs,hev,hcl,hcv⟩:=l9 (hV.later k2);have hHs2:=hp.hs.later hp.sim k2;have hns:=x58 r1 r2;have hHs:HsOK P (((c.u,s.fc,1),uW low c (c.u,s.fc,1) ps assign body s.sl)::c.hs) E2 w2:=by
  refine⟨hHs2,l,rec,k3,by unfold Rec;rw[xc1 (by simp)];exact⟨rec,k7,hns⟩,r1,r2,λp hpm blk' hb'=>?_,λE1 w1 st args vs st' h1 h2 h3 h4 h5 h6=>?_⟩
  .obtain⟨b0,e0,hlt⟩:=o6 hp.sim hp.hs p hpm;have:=k2.η _ _ _ e0;rw[hb']at this;cases this;omega
  .have h4':∃r1,w1.heap[l]?=some (.loop r1)/\uC r1=rec:=(by unfold Rec at h4;rwa[xc1 (by simp)]at h4);refine round2_ok (E0:=E2) (w0:=w2) (sl:=s.sl) hlow rfl k3 (by rw[r3];exact hp.tm.past k2.past) r1 r2 (λp hpm=>?_) h1 h2 h3 h4' h5 (by rw[r4,r5,r6];exact h6);obtain⟨b0,e0,hlt⟩:=o6 hp.sim hp.hs p hpm;exact⟨b0,k2.η _ _ _ e0,by omega⟩
 have hA:ArgsV E2 w2 (.yld (c.u,s.fc,1)::caps) (#[.func (.yield l) #[] #[]]++cvs):=by
  refine⟨by simp[hcl];omega,λi a v ha hv=>?_⟩;cases i with
  |zero=>rw[xfk (by simp)]at hv;simp at ha hv;subst ha hv;exact .yld _ l k3
  |succ i=>simp at ha;obtain⟨v',hv',hVV⟩:=hcv i a ha;rw[xg2 (by simp)]at hv;simp[hv']at hv;subst hv;exact hVV
 obtain⟨hfn0,hgo⟩:=hc _ g _ _ r st' hcall E2 w2 _ k1 hA hHs;have hfn:uM P g:=by
  rcases hfn0 with h|h
  .exact h
  .simp[vOK,rA]at h
 obtain⟨E3,w3,u,hAr,s4,s5⟩:=hgo (b.atR {a with defers:=mark++a.defers} (.inRangeFunc l::k)::cs);obtain⟨fr',s1,s2,s3⟩:=hAr.elim (λh=>h.2) λh=>absurd hfn h.1
 have hres:(resolve a.eval (rangeCall f l) 0).run P w2=.ok {target:=.fn (.func g) cvs,args:=#[.func (.yield l) #[] #[]]} w2:=by
  have hcc:∀v:Value,a.eval (.const v)=v:=λ_=>rfl
  simp[resolve,hev,Deferred.ofValue,hcc]
 have hinv:(invoke (.fn (.func g) cvs) #[.func (.yield l) #[] #[]]).run P w2=.ok (.enter g (#[.func (.yield l) #[] #[]]++cvs)) w2:=(by simp only[invoke];exact I0 hfn);have hη3:=s5.later.η _ _ _ k3;obtain⟨rb,hrb,hnb⟩:=s5.later.lsh _ _ k7;obtain⟨_,rc,e1,_,e3,_,e5⟩:=s5.sim.obj _ _ hob;rw[hη3]at e1;cases e1;rw[hrb]at e3;cases e3;have hbusy:rb.state≠.busy:=by intro e;have:=congrArg Loop.state hnb;unfold uC at this;simp[e,r1]at this
 obtain⟨g1,g2,g3,g4,g5⟩:=s5.sim.lset (w':={w3 with heap:=w3.heap.setIfInBounds l (.loop {rb with state:=.exhausted})}) (d':=d) hob hη3 hrb rfl (by
  cases d with
  |none=>exact⟨by simp,e5.2⟩
  |some o=>exact⟨by simp,e5.2⟩)
 rw[P4 hob]at g1;have hjump:rb.pending=N4 o:=by
  rcases hd with ⟨rfl,rfl⟩|rfl
  .exact e5.2
  .exact e5.2
 have hL:=(k2.trans s5.later).set (w4:={w3 with heap:=w3.heap.setIfInBounds l (.loop {rb with state:=.exhausted})}) k5 (by simp) g4;have hM:Moved E w s.st c.u (s.fc<=·) E3 {w3 with heap:=w3.heap.setIfInBounds l (.loop {rb with state:=.exhausted})} st':=by
  refine⟨g1,hL,s5.next,λid ver hn=>?_⟩;rcases s5.dom id ver hn with ⟨v0,h0⟩|h0
  .by_cases e:id=(c.u,s.fc,1)
   .exact .inr (.inr ⟨by rw[e],by rw[e];exact xc7 _⟩)
   .rw[k4 id v0 e]at h0;exact .inl ⟨v0,h0⟩
  .exact .inr (.inl h0)
 have hto:Steps P (lone (b.atR a (.code (.rangeFunc f ps assign body)::k)) cs w) (lone (b.atR {a with defers:=mark++a.defers} (((N4 o).map Item.code).toList++k)) cs {w3 with heap:=w3.heap.setIfInBounds l (.loop {rb with state:=.exhausted})}):=(by refine Steps.head (stepR_rangeFunc he hres hinv) (Steps.trans s1 (Steps.head (step_leave_returned s3) (Steps.head ?_ (.refl _ _))));rw[finish_atR_inRangeFunc];have:=stepR_endRangeFunc (P:=P) (b:=b) (a:={a with defers:=mark++a.defers}) (k:=k) (cs:=cs) (x8t hrb hbusy);rw[<-hjump];exact this);refine⟨{a with defers:=mark++a.defers},E3,_,⟨⟨g1,hp.tm.past hL.past,?_,xcq hp.u s5.next,?_,hp.kind,λlr hlr=>?_,?_⟩,hM,xev _⟩,?_⟩
 .refine(hHs2.later k1 s5.later).set g2 g4 λp hpm blk' hb'=>?_
  obtain⟨b0,e0,hlt⟩:=o6 hp.sim hp.hs p hpm;have:=s5.later.η _ _ _ (k2.η _ _ _ e0);rw[hb']at this;cases this;omega
 .intro id ver hn hi;show id.2.1<s.fc+1;rcases s5.dom id ver hn with ⟨v0,h0⟩|h0
  .by_cases e:id=(c.u,s.fc,1)
   .rw[e];exact xec _
   .rw[k4 id v0 e]at h0;have:=hp.used id v0 h0 hi;omega
  .have:=hp.u;simp only at h0;omega
 .obtain⟨r0,hr0⟩:=hp.round lr hlr;have hlt:=l8 hr0;obtain⟨ra,q1,_⟩:=k2.lsh _ _ hr0;obtain⟨rb,q2,_⟩:=s5.later.lsh _ _ q1;exact⟨rb,by rw[g4 lr (by omega)];exact q2⟩
 .exact((k6.later k1 s5.later)).set hrb g4
 .cases o with
  |normal=>exact hto
  |exit i=>exact⟨k,rfl,hto⟩
  |ret=>exact⟨k,hto⟩
theorem range_ok(hc:tO P call)(hlow:∀c code s o s',low c code s=some (o,s')->wZ P c code s o s'):RangeOK P low call:=by
 intro pol f ps assign body c s s' o h b a E w lim k cs it hit hl hp;obtain rfl:it=.code (.rangeFunc f ps assign body):=hit.elim (λh=>h) λ⟨_,e,_⟩=>(by cases e);simp only[rS]at h;split at h
 .rename_i g caps hfv;split at h
  .split at h
   .rename_i r st' hcall;split at h
    .rename_i hob;cases h;exact x5b hc hlow hfv hcall hob (.inl ⟨rfl,rfl⟩) b a E w lim k cs _ (.inl rfl) hl hp
    .rename_i o' hob;cases h;exact x5b hc hlow hfv hcall hob (.inr rfl) b a E w lim k cs _ (.inl rfl) hl hp
    .cases h
   .cases h
  split at h
  .rename_i r st' hcall;cases h;have hV:=hp.tm.ev (a:=a) f;rw[hfv]at hV;have hfr:∀ver,E.η (c.u,s.fc,0) ver=none:=λver=>by
    cases he:E.η (c.u,s.fc,0) ver with
    |none=>rfl
    |some x=>have:=hp.used _ ver (by rw[he];simp) rfl;simp at this
   obtain⟨l,mark,w2,E2,he,k1,k2,k3,k4,k5,k6,rec,⟨r1,r2,r3,r4,r5,r6⟩,k7⟩:=enter_ok (ps:=ps) (assign:=assign) (body:=body) hp hl (id:=(c.u,s.fc,0)) hp.u hfr;obtain⟨cvs,hev,hcl,hcv⟩:=l9 (hV.later k2);have hHs2:=hp.hs.later hp.sim k2;have hHs:HsOK P (((c.u,s.fc,0),P9 low c ps assign body s.sl)::c.hs) E2 w2:=by
    refine⟨hHs2,l,rec,k3,by unfold Rec;rw[xc2 rfl];exact k7,r1,r2,λp hpm blk' hb'=>?_,λE1 w1 st args vs st' h1 h2 h3 h4 h5 h6=>?_⟩
    .obtain⟨b0,e0,hlt⟩:=o6 hp.sim hp.hs p hpm;have:=k2.η _ _ _ e0;rw[hb']at this;cases this;omega
    .have h4':Held E1 w1 l (.loop rec):=(by unfold Rec at h4;rwa[xc2 rfl]at h4);refine round_ok (E0:=E2) (w0:=w2) (sl:=s.sl) hlow (by rw[r3];exact hp.tm.past k2.past) r1 r2 (λp hpm=>?_) h1 h2 h3 h4' h5 (by rw[r4,r5,r6];exact h6);obtain⟨b0,e0,hlt⟩:=o6 hp.sim hp.hs p hpm;exact⟨b0,k2.η _ _ _ e0,by omega⟩
   have hA:ArgsV E2 w2 (.yld (c.u,s.fc,0)::caps) (#[.func (.yield l) #[] #[]]++cvs):=by
    refine⟨by simp[hcl];omega,λi a v ha hv=>?_⟩;cases i with
    |zero=>rw[xfk (by simp)]at hv;simp at ha hv;subst ha hv;exact .yld _ l k3
    |succ i=>simp at ha;obtain⟨v',hv',hVV⟩:=hcv i a ha;rw[xg2 (by simp)]at hv;simp[hv']at hv;subst hv;exact hVV
   obtain⟨hfn0,hgo⟩:=hc _ g _ s.st r st' hcall E2 w2 _ k1 hA hHs;have hfn:uM P g:=by
    rcases hfn0 with h|h
    .exact h
    .simp[vOK,rA]at h
   obtain⟨E3,w3,u,hAr,s4,s5⟩:=hgo (b.atR {a with defers:=mark++a.defers} (.inRangeFunc l::k)::cs);obtain⟨fr',s1,s2,s3⟩:=hAr.elim (λh=>h.2) λh=>absurd hfn h.1
   have hres:(resolve a.eval (rangeCall f l) 0).run P w2=.ok {target:=.fn (.func g) cvs,args:=#[.func (.yield l) #[] #[]]} w2:=by
    have hcc:∀v:Value,a.eval (.const v)=v:=λ_=>rfl
    simp[resolve,hev,Deferred.ofValue,hcc]
   have hinv:(invoke (.fn (.func g) cvs) #[.func (.yield l) #[] #[]]).run P w2=.ok (.enter g (#[.func (.yield l) #[] #[]]++cvs)) w2:=(by simp only[invoke];exact I0 hfn);have k7':=k7.later k1 s5.later;obtain⟨g1,g2,g3,g4⟩:=k7'.set s5.sim (w':={w3 with heap:=w3.heap.setIfInBounds l (.loop {rec with state:=.exhausted})}) rfl (by intro c t f e;cases e) (by intro c t f e;cases e);have hL:=(k2.trans s5.later).set (w4:={w3 with heap:=w3.heap.setIfInBounds l (.loop {rec with state:=.exhausted})}) k5 (by simp) g4;have hM:Moved E w s.st c.u (s.fc<=·) E3 {w3 with heap:=w3.heap.setIfInBounds l (.loop {rec with state:=.exhausted})} st':=by
    refine⟨g1,hL,s5.next,λid ver hn=>?_⟩;rcases s5.dom id ver hn with ⟨v0,h0⟩|h0
    .by_cases e:id=(c.u,s.fc,0)
     .exact .inr (.inr ⟨by rw[e],by rw[e];exact xc7 _⟩)
     .rw[k4 id v0 e]at h0;exact .inl ⟨v0,h0⟩
    .exact .inr (.inl h0)
   refine⟨{a with defers:=mark++a.defers},E3,_,⟨⟨g1,hp.tm.past hL.past,?_,xcq hp.u s5.next,?_,hp.kind,λlr hlr=>?_,?_⟩,hM,xev _⟩,?_⟩
   .refine(hHs2.later k1 s5.later).set g2 g4 λp hpm blk' hb'=>?_
    obtain⟨b0,e0,hlt⟩:=o6 hp.sim hp.hs p hpm;have:=s5.later.η _ _ _ (k2.η _ _ _ e0);rw[hb']at this;cases this;omega
   .intro id ver hn hi;show id.2.1<s.fc+1;rcases s5.dom id ver hn with ⟨v0,h0⟩|h0
    .by_cases e:id=(c.u,s.fc,0)
     .rw[e];exact xec _
     .rw[k4 id v0 e]at h0;have:=hp.used id v0 h0 hi;omega
    .have:=hp.u;omega
   .obtain⟨r0,hr0⟩:=hp.round lr hlr;have hlt:=l8 hr0;obtain⟨ra,q1,_⟩:=k2.lsh _ _ hr0;obtain⟨rb,q2,_⟩:=s5.later.lsh _ _ q1;exact⟨rb,by rw[g4 lr (by omega)];exact q2⟩
   .exact((k6.later k1 s5.later)).set k7'.2.2 g4
   .refine Steps.head (stepR_rangeFunc he hres hinv) (Steps.trans s1 (Steps.head (step_leave_returned s3) (Steps.head ?_ (.refl _ _))));rw[finish_atR_inRangeFunc];have:=stepR_endRangeFunc (P:=P) (b:=b) (a:={a with defers:=mark++a.defers}) (k:=k) (cs:=cs) (x8s k7'.2.2 r1 r2);simpa using this
  .cases h
 .cases h
theorem ix_ok{pol:Pol}(ht:o5 P pol)(ho:C4 P pol):∀(n:Nat) (c:Ctx) (code:Code) (s:S) (o:Out) (s':S),ix P pol n c code s=some (o,s')->wZ P c code s o s'
 |0,_,_,_,_,_,h=>by simp[ix]at h
 |n+1,c,code,s,o,s',h=>by have hlow:=ix_ok (pol:=pol) ht ho n;have hc:tO P (wV P pol (ix P pol n)):=body_ok ht hlow;exact xP hc ho hlow (range_ok hc hlow) code h
theorem ixCall_ok{pol:Pol}(ht:o5 P pol)(ho:C4 P pol)(n:Nat):tO P (rV P pol n):=body_ok ht (ix_ok ht ho n)
end
end Go.Ix
