import Derived.Test.YtpeakdjfagbpcaaGreatWg13
set_option linter.unusedSimpArgs false
set_option linter.unusedVariables false
namespace Go.Ix
open Go.Proofs
def nearU(l:List Edge)(a:Int):List Int:=l.flatMap fun e=>if 0<e.wt then(if e.fr=a then[e.to]else if e.to=a then[e.fr]else[])else[]
def okjd(u fc:Nat)(id:Id):Prop:=id.1=u/\(id.2.2=35\/id.2.2=44)/\id.2.1<fc
structure AtJ (u fc:Nat) (cells:List AV) (adj:Nat->List Int) (m:Mem):Prop where
 sh:∃ids:Nat->Id,(∀(v:Nat) (hv:v<cells.length),(cells[v]=nilS/\adj v=[])\/(∃ver,cells[v]=.sref (ids v) ver 0 (adj v).length 1 true/\m.get (ids v)=some (.row ((adj v).flatMap intE) ver false)/\okjd u fc (ids v)/\adj v≠[])) /\
  ∀v w,v<cells.length->w<cells.length->adj v≠[]->adj w≠[]->v≠w->ids v≠ids w
theorem AtJ.frame{u fc fc':Nat}{cells:List AV}{adj:Nat->List Int}{m m':Mem}(h:AtJ u fc cells adj m)(hm:∀id,okjd u fc id->m'.get id=m.get id)(hfc:fc<=fc'):AtJ u fc' cells adj m':=by
 obtain⟨ids,h1,h2⟩:=h.sh
 refine⟨ids,fun v hv=>?_,h2⟩
 rcases h1 v hv with h|⟨ver,a,b,c,d⟩
 .exact Or.inl h
 .exact Or.inr ⟨ver,a,by rw[hm _ c];exact b,⟨c.1,c.2.1,by have:=c.2.2;omega⟩,d⟩
theorem AtJ.app{u fc fc':Nat}{cells:List AV}{adj:Nat->List Int}{m:Mem}(h:AtJ u fc cells adj m){v:Nat}(hv:v<cells.length)(x:Int){id0:Id}(h1:id0.1=u)(h2:id0.2.2=35\/id0.2.2=44)(h3:fc<=id0.2.1)(h4:id0.2.1<fc')(hr:(adj v).length<=100000) :
 ∃a' m' idA,(∀{R:Type} (k:AV->Mem->Option R),sApp 1 8 id0 (some (intE x,1)) cells[v] m k=k a' m')/\AtJ u fc' (cells.set v a') (fun w=>if w=v then adj v++[x]else adj w) m'/\a'.cells=[a']/\a'.one=true/\m'.next=m.next/\(∀j:Id,¬okjd u fc' j->m'.get j=m.get j) /\
  tA id0 cells[v]=some [idA]/\(idA.2.2=35\/idA.2.2=44)/\idA.1=u:=by
 obtain⟨ids,e1,e2⟩:=h.sh
 have hro:∀k,k<=100001->x2ge k 8:=fun k hk=>by unfold x2ge;omega
 have others:∀(w:Nat) (hw:w<cells.length),((cells[w]=nilS/\adj w=[])\/(∃ver,cells[w]=.sref (ids w) ver 0 (adj w).length 1 true/\m.get (ids w)=some (.row ((adj w).flatMap intE) ver false)/\okjd u fc (ids w)/\adj w≠[])):=e1
 rcases e1 v hv with ⟨c1,c2⟩|⟨ver,c1,c2,c3,c4⟩
 ·
  refine⟨.sref id0 0 0 1 1 true,m.new id0 (.row (intE x) 0 false),id0,fun k=>?_,⟨fun w=>if w=v then id0 else ids w,fun w hw=>?_,fun w w' hw hw' n1 n2 hne=>?_⟩,rfl,rfl,rfl,fun j hj=>?_,by rw[c1];rfl,h2,h1⟩
  .rw[c1]
   simp only[sApp]
   rw[if_neg (by omega),if_pos (hro 1 (by omega))]
  .simp only[List.length_set]at hw
   by_cases hwv:w=v
   .subst hwv
    right
    refine⟨0,?_,?_,?_,by simp⟩
    .simp[c2]
    .simp[c2]
    .simp only[if_true];exact⟨h1,h2,h4⟩
   .rw[List.getElem_set_ne (fun e=>hwv e.symm)]
    simp only[if_neg hwv]
    rcases others w hw with h|⟨ver,a,b,c,d⟩
    .exact Or.inl h
    .refine Or.inr ⟨ver,a,?_,⟨c.1,c.2.1,by have:=c.2.2;omega⟩,d⟩
     rw[Mem.get_new,if_neg (by rintro e;rw[e]at c;have:=c.2.2;omega)];exact b
  .simp only[List.length_set]at hw hw'
   by_cases hwv:w=v
   .have hwv':w'≠v:=by omega
    simp only[if_pos hwv,if_neg hwv']
    simp only[if_neg hwv']at n2
    rcases others w' hw' with ⟨_,h⟩|⟨_,_,_,c,_⟩
    .exact absurd h n2
    .intro e;rw[<-e]at c;have:=c.2.2;omega
   .by_cases hwv':w'=v
    .simp only[if_neg hwv,if_pos hwv']
     simp only[if_neg hwv]at n1
     rcases others w hw with ⟨_,h⟩|⟨_,_,_,c,_⟩
     .exact absurd h n1
     .intro e;rw[e]at c;have:=c.2.2;omega
    .simp only[if_neg hwv,if_neg hwv']at n1 n2 ⊢
     exact e2 w w' hw hw' n1 n2 hne
  .rw[Mem.get_new,if_neg (by rintro rfl;exact hj ⟨h1,h2,h4⟩)]
 .have hl:=x2l7 (adj v)
  refine⟨.sref (ids v) (ver+1) 0 ((adj v).length+1) 1 true,m.set (ids v) (.row ((adj v).flatMap intE++intE x) (ver+1) false),ids v,fun k=>?_,⟨ids,fun w hw=>?_,fun w w' hw hw' n1 n2 hne=>?_⟩,rfl,rfl,rfl,fun j hj=>?_,by rw[c1];rfl,c3.2.1,c3.1⟩
  .rw[c1]
   simp only[sApp,c2]
   rw[if_pos ⟨trivial,trivial,by omega,hro _ (by omega)⟩,if_neg (by omega),if_neg (by omega),List.drop_zero,List.take_of_length_le (by omega)]
  .simp only[List.length_set]at hw
   by_cases hwv:w=v
   .subst hwv
    right
    refine⟨ver+1,by simp,by simp,⟨c3.1,c3.2.1,by have:=c3.2.2;omega⟩,by simp⟩
   .rw[List.getElem_set_ne (fun e=>hwv e.symm)]
    simp only[if_neg hwv]
    rcases others w hw with h|⟨ver',a,b,c,d⟩
    .exact Or.inl h
    .refine Or.inr ⟨ver',a,?_,⟨c.1,c.2.1,by have:=c.2.2;omega⟩,d⟩
     rw[Mem.get_set,if_neg (e2 w v hw hv d c4 hwv)];exact b
  .simp only[List.length_set]at hw hw'
   refine e2 w w' hw hw' ?_ ?_ hne
   .by_cases hwv:w=v
    .subst hwv;exact c4
    .simpa[hwv]using n1
   .by_cases hwv:w'=v
    .subst hwv;exact c4
    .simpa[hwv]using n2
  .rw[Mem.get_set,if_neg (by rintro rfl;exact hj ⟨c3.1,c3.2.1,by have:=c3.2.2;omega⟩)]
theorem Gk.lenP{ok:Id->Prop}{m:Mem}{a:AV}{l:List Int}(h:Gk 1 intE ok m a l):sLen Tryz.prog x2 a=some (I l.length):=by
 rcases h with ⟨rfl,rfl⟩|⟨id,ver,h0,rfl,hg⟩
 .exact x2n3 x2hl
 .rfl
def PartC(n:Nat)(l:List Edge)(m:Mem):Prop:=m.get (0,6,3)=some (.row [srI (0,5,9) n] 0 false)/\∃cells,m.get (0,5,9)=some (.row cells 0 false)/\cells.length=n/\∀(v:Nat) (hv:v<cells.length),Gk 1 intE (fun id=>id.1=0) m cells[v] (nearU l v)
theorem PartC.frame{n:Nat}{l:List Edge}{m m':Mem}(h:PartC n l m)(hm:∀id:Id,id.1<1->m'.get id=m.get id):PartC n l m':=by
 obtain⟨h1,cells,h2,h3,h4⟩:=h
 exact⟨by rw[hm _ (by simp)];exact h1,cells,by rw[hm _ (by simp)];exact h2,h3,fun v hv=>(h4 v hv).frame fun id hid=>hm id (by omega)⟩
theorem um_map:Tryz.prog.underlying x3u=some (.map x2gc x2gc):=by kernel_rfl
theorem um_int:Tryz.prog.underlying x2gc=some (.int .i64):=by kernel_rfl
theorem zv_int:x2m0 Tryz.prog x2gc=some (I 0):=by kernel_rfl
def mpE(E:List (Int×Int)):List (Value×AV):=E.map fun x=>(.int .i64 x.1,I x.2)
def lkp:List (Int×Int)->Int->Option Int
 |[],_=>none
 |x::r,p=>if p=x.1 then some x.2 else lkp r p
theorem lkp_app(E:List (Int×Int))(p v q:Int)(h:lkp E p=none):lkp (E++[(p,v)]) q=if q=p then some v else lkp E q:=by
 induction E with
 |nil=>simp[lkp]
 |cons x r ih=>
  simp only[lkp,List.cons_append]at h ⊢
  by_cases c:p=x.1
  .rw[if_pos c]at h;cases h
  .rw[if_neg c]at h
   rw[ih h]
   by_cases e:q=x.1
   .rw[if_pos e,if_neg (by omega),if_pos e]
   .rw[if_neg e,if_neg e]
theorem plain_mp(E:List (Int×Int))(p:Int):x2in (.int .i64) (.int .i64 p) (mpE E)=true:=by
 unfold x2in mpE
 simp only[List.all_cons,List.map_map,List.all_map]
 rw[Bool.and_eq_true]
 exact⟨rfl,by rw[List.all_eq_true];intro x _;rfl⟩
theorem x2sv(p q:Int):x2h6 (.int .i64 p) (.int .i64 q)=decide (p=q):=by
 unfold x2h6
 rfl
theorem find_mp(E:List (Int×Int))(p:Int):findKey (.int .i64 p) (mpE E)=(lkp E p).map I:=by
 induction E with
 |nil=>rfl
 |cons x r ih=>
  unfold mpE at ih ⊢
  simp only[List.map_cons,findKey,lkp,x2sv]
  by_cases c:p=x.1
  .simp[c]
  .simp only[c,decide_false,Bool.false_eq_true,if_false];exact ih
theorem set_mp(E:List (Int×Int))(p v:Int)(h:lkp E p=none):setKey (.int .i64 p) (I v) (mpE E)=mpE (E++[(p,v)]):=by
 induction E with
 |nil=>rfl
 |cons x r ih=>
  simp only[lkp]at h
  unfold mpE at ih ⊢
  simp only[List.map_cons,List.cons_append,setKey,x2sv]
  by_cases c:p=x.1
  .rw[if_pos c]at h;cases h
  .rw[if_neg c]at h
   simp only[c,decide_false,Bool.false_eq_true,if_false,ih h]
theorem x2sw(E:List (Int×Int))(p:Int):x2j7 Tryz.prog x2gc (.int .i64) (.int .i64 p) (mpE E)=true:=by
 unfold x2j7
 rw[plain_mp E p,Bool.true_or]
theorem look_ok(id:Id)(E:List (Int×Int))(p:Int)(m:Mem)(h:m.get id=some (.map (mpE E))):x2jd Tryz.prog x3u (.mp id) (I p) true m=some (.tup [I ((lkp E p).getD 0),B (lkp E p).isSome]):=by
 unfold x2jd
 simp only[um_map,um_int,zv_int,x2gl,x2ka,h]
 rw[if_pos (x2sw E p),find_mp]
 cases lkp E p<;>rfl
theorem up_ok{R:Type}(id:Id)(E:List (Int×Int))(p v:Int)(m:Mem)(k:Mem->Option R)(h:m.get id=some (.map (mpE E)))(hn:lkp E p=none):x2k2 Tryz.prog x3u (.mp id) (I p) (I v) m k=k (m.set id (.map (mpE (E++[(p,v)])))):=by
 unfold x2k2
 simp only[um_map,um_int,x2gl,h]
 rw[if_pos (x2sw E p),set_mp E p v hn]
end Go.Ix
