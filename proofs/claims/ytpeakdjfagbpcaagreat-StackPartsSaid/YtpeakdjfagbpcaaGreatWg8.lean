import Derived.Test.YtpeakdjfagbpcaaGreatWg7
import Derived.Test.YtpeakdjfagbpcaaGreatWg6
import Derived.Test.YtpeakdjfagbpcaaGreatWg3
set_option linter.unusedSimpArgs false
set_option linter.unusedVariables false
namespace Go.Ix
open Go.Proofs
theorem x2nk{P:List Pq}{k:Nat}(h:k<P.length):prAt P (k:Int)=P[k]:=prAt_lt (by simpa using h)
def allM(N:Nat)(but:Int):List Int:=(freshM N).filter fun i=>!decide (i=but)
theorem all_1(N:Nat):allM N (-1)=freshM N:=by
 unfold allM
 rw[List.filter_eq_self]
 intro x hx
 have:=fresh_mem.mp hx
 simp;omega
theorem w_all(d:Nat){s p:AV}{P:List Pq}(hs:s.one=true/\still1 s=true)(hp:Sl Pq.c p P)(hpl:P.length<=1000)(but:Int)(m:Mem):∃a,Ints a (allM P.length but)/\x2eg (x2ej (d+1)) x32 [.agg [s,p],I but] m=some (a,m):=by
 refine x2h6 (by simp[hs.2,hp.still1]) ?_ m
 rw[x1cn]
 unfold xfa xhc xdc
 simp[mem0,hs.1,hp.one]
 refine x2gf (N:=P.length) (fun n k o m fc=>x3l (x2ej d) [] 0 n (I but) (.ptr (0,0,2) 0 0) o (I k) m fc)
  (fun k o m=>m.get (0,0,2)=some (.row [s,p] 0 false)/\Gr 1 intE 0 20 m o (((freshM P.length).take k).filter fun i=>!decide (i=but))) _ ?_ ?_ NN 0 nilS _ _ (by omega) (by rw[x2fk];omega) ⟨by simp,by simpa using Gr.nil⟩
 .rintro n k o m fc hk ⟨hg,hG⟩ next
  have hk':(k:Int)<(P.length:Int):=by omega
  have hsn:((freshM P.length).take (k+1)).filter (fun i=>!decide (i=but))=((freshM P.length).take k).filter (fun i=>!decide (i=but))++(if(k:Int)=but then[]else[(k:Int)]):=by
   rw[<-x2l3 hk,List.filter_append]
   congr 1
   by_cases c:(k:Int)=but<;>simp[List.filter_cons,c]
  have hfl:(((freshM P.length).take k).filter fun i=>!decide (i=but)).length<=P.length:=by
   have h1:=List.length_filter_le (fun i:Int=>!decide (i=but)) ((freshM P.length).take k)
   have h2:((freshM P.length).take k).length<=P.length:=by simp[freshM];omega
   omega
  simp only[x3l]
  unfold xdb xda
  by_cases c:(k:Int)=but
  .rw[if_pos c,List.append_nil]at hsn
   obtain rfl:but=(k:Int):=c.symm
   simp[hg,hp.len x2ga,hk]
   unfold x5q
   simp(disch:=omega) [x2f2]
   exact next o m _ ⟨hg,by rw[hsn];exact hG⟩
  .rw[if_neg c]at hsn
   obtain⟨o2,m2,e1,e2,e3,e4⟩:=hG.app (s0:=fc+5+6) (bytes:=8) x2fd (by omega) (by unfold x2er;omega) (k:Int)
   simp[hg,hp.len x2ga,hk',c,x2ip]
   rw[show ∀x:Int,elems m.get 1 (.slit [I x] 1 true)=some (intE x,1)from fun _=>rfl,e1]
   unfold x5q
   simp(disch:=omega) [x2f2]
   exact next o2 m2 _ ⟨by rw[e4 _ (by simp)];exact hg,by rw[hsn];exact e2⟩
 .rintro n o m fc ⟨hg,hG⟩
  rw[List.take_of_length_le (by simp[freshM])]at hG
  simp only[x3l]
  unfold xdb x1o
  simp[hg,hp.len x2ga]
  obtain⟨a',h1,h2⟩:=hG.frzk (k:=4) x2fd x2io
  exact RetF.mk h2 h1
theorem x2nl{l:List Scene}{P:List Pq}(hR:Right7 l P)(but:Int):Rng l.length P (allM P.length but):=fun i hi=>by
 have:=fresh_mem.mp (List.mem_filter.mp hi).1
 exact⟨this,hR.at this⟩
theorem uni_all{n:Nat}{P:List Pq}:uniM n P (allM P.length (-1))=joinsM (freshM n) P:=by
 unfold uniM
 rw[all_1,prs_fresh]
def CI(m:Mem)(u:Nat)(a:AV)(l:List Int):Prop:=(l=[]/\a=.slit [] 0 true)\/(l≠[]/\a=.sref (u,3,5) 0 0 l.length 1 true/\Ow intE m (u,3,5) l)
theorem CI.one{m:Mem}{u:Nat}{a:AV}{l:List Int}(h:CI m u a l):a.cells=[a]/\a.one=true/\still1 a=still1 a:=by
 rcases h with ⟨-,rfl⟩|⟨-,rfl,-⟩<;>exact⟨rfl,rfl,rfl⟩
theorem CI.fr{m m':Mem}{u:Nat}{a:AV}{l:List Int}(h:CI m u a l)(e:m'.get (u,3,5)=m.get (u,3,5)):CI m' u a l:=by
 rcases h with h|⟨h0,h1,h2⟩
 .exact .inl h
 .exact .inr ⟨h0,h1,h2.fr e⟩
theorem CI.frz{m:Mem}{u:Nat}{a:AV}{l:List Int}(h:CI m u a l)(k:Nat):∃a',Ints a' l/\Go.Ix.frz m.get (k+2) a=some a':=by
 rcases h with ⟨rfl,rfl⟩|⟨-,rfl,h⟩
 .exact⟨.slit [] 0 true,Sl.lit [] true,rfl⟩
 .exact⟨_,Sl.lit l false,x2ke (k:=k) x2fd x2io h⟩
structure Ar where
 edge:Int
 to:Int
 sign:Int
 room:Int
 cost:Int
def Ar.c(a:Ar):List AV:=[I a.edge,I a.to,I a.sign,I a.room,I a.cost]
theorem Ar.len(a:Ar):a.c.length=5:=rfl
def e00:Edge:=⟨0,0,0,0⟩
def edgeAt(l:List Edge)(i:Nat):Edge:=l.getD i e00
theorem x2m0{l:List Edge}{i:Nat}(h:i<l.length):edgeAt l i=l[i]:=by
 unfold edgeAt;rw[List.getD_eq_getElem?_getD,List.getElem?_eq_getElem h];rfl
def adjI(l:List Edge)(v:Int):List Int:=((List.range l.length).filter fun i=>decide ((edgeAt l i).fr=v)||decide ((edgeAt l i).to=v)).map Int.ofNat
structure FrzS (S:AV) (n:Nat) (l:List Edge) (fl tu ex:List Int):Prop where
 sh:∃ev F TU X cells b,S=.plit [I n,ev,F,TU,X,.slit cells n b]/\Sl Edge.c ev l/\Ints F fl/\Ints TU tu/\Ints X ex/\cells.length=n/\∀(v:Nat) (hv:v<cells.length),Ints cells[v] (adjI l v)
 fll:fl.length=l.length
 tul:tu.length=n
 exl:ex.length=n
 n0:n<=200
 ll:l.length<=600
 ed:∀e∈l,EdgeIn n e/\e.fr≠e.to
 flb:∀k,-1000<=at0 fl k/\at0 fl k<=1000
 tub:∀k,-1000000<=at0 tu k/\at0 tu k<=1000000
end Go.Ix
