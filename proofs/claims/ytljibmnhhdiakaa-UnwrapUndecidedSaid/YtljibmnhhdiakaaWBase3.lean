import Derived.Test.YtljibmnhhdiakaaWBase2
import Derived.Test.YtljibmnhhdiakaaFxSound
set_option linter.unusedSimpArgs false
set_option linter.unusedVariables false
namespace Go.Ix
open Go.Proofs
variable{α:Type}{z:Nat}{enc:α->List AV}{l:List α}{a:AV}
def Gk{α:Type}(z:Nat)(enc:α->List AV)(ok:Id->Prop)(m:Mem)(a:AV)(l:List α):Prop:=
 (a=nilS/\l=[])\/∃id ver,ok id/\a=.sref id ver 0 l.length z true/\m.get id=some (.row (l.flatMap enc) ver false)
theorem Gk.nil{ok:Id->Prop}{m:Mem}:Gk z enc ok m nilS []:=Or.inl ⟨rfl,rfl⟩
theorem Gk.frame{ok:Id->Prop}{m m':Mem}(h:Gk z enc ok m a l)(hm:∀id,ok id->m'.get id=m.get id):Gk z enc ok m' a l:=by
 rcases h with h|⟨id,ver,h0,h1,h2⟩
 .exact Or.inl h
 .exact Or.inr ⟨id,ver,h0,h1,by rw[hm _ h0];exact h2⟩
theorem Gk.app(hz:∀x,(enc x).length=z)(h0:0<z){bytes:Nat}{ok:Id->Prop}{id0:Id}{m:Mem}(ht:ok id0)(hr:x1r4 (l.length+1) bytes)(h:Gk z enc ok m a l)(x:α) :
 ∃a' m',(∀{R:Type} (k:AV->Mem->Option R),sApp z bytes id0 (some (enc x,1)) a m k=k a' m')/\Gk z enc ok m' a' (l++[x])/\a'.cells=[a']/\a'.one=true/\m'.next=m.next/\∀j:Id,¬ok j->m'.get j=m.get j:=by
 rcases h with ⟨rfl,rfl⟩|⟨id,ver,h1,rfl,hg⟩
 .refine⟨.sref id0 0 0 1 z true,m.new id0 (.row (enc x) 0 false),fun k=>?_,Or.inr ⟨id0,0,ht,rfl,by simp⟩,rfl,rfl,rfl,fun j hj=>?_⟩
  .simp only[sApp]
   rw[if_neg (by omega),if_pos (by simpa using hr)]
  .rw[Mem.get_new,if_neg (by rintro rfl;exact hj ht)]
 .have hl:=x1v2 hz l
  refine⟨.sref id (ver+1) 0 (l.length+1) z true,m.set id (.row (l.flatMap enc++enc x) (ver+1) false),fun k=>?_,Or.inr ⟨id,ver+1,h1,by simp,by simp⟩,rfl,rfl,rfl,fun j hj=>?_⟩
  .simp only[sApp,hg]
   rw[if_pos ⟨trivial,trivial,by omega,hr⟩,if_neg (by omega),if_neg (by rw[hl,Nat.succ_mul];omega),List.drop_zero,List.take_of_length_le (by omega)]
  .rw[Mem.get_set,if_neg (by rintro rfl;exact hj h1)]
theorem Gk.one{ok:Id->Prop}{m:Mem}(h:Gk z enc ok m a l):a.cells=[a]/\a.one=true:=by
 rcases h with ⟨rfl,rfl⟩|⟨id,ver,h1,rfl,hg⟩<;>exact⟨rfl,rfl⟩
theorem Gk.frz(hz:∀x,(enc x).length=z)(hs:∀x,(enc x).all still1=true){ok:Id->Prop}{k:Nat}{m:Mem}(h:Gk z enc ok m a l):∃a',Sl enc a' l/\Go.Ix.frz m.get (k+2) a=some a':=by
 rcases h with ⟨rfl,rfl⟩|⟨id,ver,_,rfl,hg⟩
 .exact⟨nilS,Or.inl ⟨rfl,rfl⟩,rfl⟩
 .have hl:=x1v2 hz l
  refine⟨.slit (l.flatMap enc) l.length false,Sl.lit l false,?_⟩
  have:=x1v4 (objs:=m.get) (id:=id) (cs:=l.flatMap enc) (ver:=ver) (off:=0) (n:=l.length) (z:=z) (k:=k) (f:=false) (x:=true) hg (by omega) (by
   rw[List.drop_zero,List.take_of_length_le (by omega)];exact x1ur hs l)
  rw[List.drop_zero,List.take_of_length_le (by omega)]at this
  exact this
theorem x1vw{call:x1qo}{f:FuncId}{l:List AV}{m m':Mem}{r:AV}(hl:l.all clean=true)(h:call [] f l ⟨[],m.next⟩=some (r,m')) :
 ∃M:Mem,x1tu call f l m=some (r,M)/\M.next=m'.next/\∀i:Id,M.get i=if m.next<=i.1 then m'.get i else m.get i:=by
 refine⟨⟨(m'.hp.filter fun e=>Nat.ble m.next e.1)++(m.hp.filter fun e=>Nat.blt e.1 m.next),m'.next⟩,?_,rfl,fun i=>congrFun (x24o m'.hp m.hp m.next) i⟩
 unfold x1tu
 rw[if_pos hl,h]
theorem x24z{id:Id}{l k:List Int}{rest:List AV}{m:Mem}(hg:m.get id=some (.row (l.flatMap intE++rest) 0 false))(hk:k.length<=rest.length)(hr:x1r4 (l.length+k.length) 8) :
 ∃m',(∀(id0:Id) {R:Type} (K:AV->Mem->Option R),sApp 1 8 id0 (some (k.flatMap intE,k.length)) (.sref id 0 0 l.length 1 true) m K=K (.sref id 0 0 (l++k).length 1 true) m')/\m'.get id=some (.row ((l++k).flatMap intE++rest.drop k.length) 0 false)/\m'.next=m.next:=by
 have h1:=x1th l
 have h2:=x1th k
 have hc:True/\True/\0+l.length*1<=(l.flatMap intE++rest).length/\x1r4 (l.length+k.length) 8:=⟨trivial,trivial,by simp[h1],hr⟩
 by_cases h0:k.length=0
 .refine⟨m,fun id0 R K=>?_,?_,rfl⟩
  .simp only[sApp,hg]
   rw[if_pos hc,if_pos h0]
   simp[h0]
  .rw[hg];rw[List.length_eq_zero_iff.mp h0];simp
 .refine⟨m.set id (.row ((l++k).flatMap intE++rest.drop k.length) 0 false),fun id0 R K=>?_,by simp,rfl⟩
  simp only[sApp,hg]
  rw[if_pos hc,if_neg h0,if_pos (by simp only[List.length_append,h1];omega)]
  simp only[List.length_append]
  congr 3
  simp only[x1rc,Nat.zero_add,Nat.mul_one,List.flatMap_append]
  rw[List.take_append_of_le_length (by omega),List.take_of_length_le (by omega),List.drop_append,h1,h2,List.drop_eq_nil_of_le (by omega),List.nil_append,List.append_assoc,show l.length+k.length-l.length=k.length by omega]
theorem cap_nil:x1v1 Try.prog .cap #[x5] x1sq [nilS]=some (I 0):=by kernel_rfl
theorem x283:x1t4 Try.prog x5 nilS none (some (I 0))=some nilS:=by kernel_rfl
theorem x226:∃i,Try.prog.info? x1sq=some i/\i.size=1:=by
 have h:(Try.prog.info? x1sq).map (fun i=>i.size)=some 1:=by kernel_rfl
 obtain⟨i,h1,h2⟩:=Option.map_eq_some_iff.mp h
 exact⟨i,h1,h2⟩
theorem x250{id:Id}{ver off n:Nat}{full:Bool}{hi:Int}(h1:0<=hi)(h2:hi<=n):x1t4 Try.prog x5 (.sref id ver off n 1 full) none (some (I hi))=some (.sref id ver off hi.toNat 1 full):=by
 obtain⟨i,e1,e2⟩:=x226
 simp only[x1t4,x1rj,x1r8,e1,asI,Option.getD_some,Option.getD_none]
 rw[if_pos ⟨by omega,h1,h2,e2.symm⟩]
 simp
theorem x251{id:Id}{ver off n:Nat}{full:Bool}{lo:Int}(h0:0<=lo)(h2:lo<=n):x1t4 Try.prog x5 (.sref id ver off n 1 full) (some (I lo)) none=some (.sref id ver (off+lo.toNat) (n-lo.toNat) 1 full):=by
 obtain⟨i,e1,e2⟩:=x226
 simp only[x1t4,x1rj,x1r8,e1,asI,Option.getD_some,Option.getD_none]
 rw[if_pos ⟨h0,by omega,by omega,e2.symm⟩,Nat.mul_one,show((n:Int)-lo).toNat=n-lo.toNat by omega]
theorem x252{l k:List Int}{i:Nat}(h:i<l.length):at0 (l++k) i=at0 l i:=by
 unfold at0
 simp only[List.getD_eq_getElem?_getD]
 rw[List.getElem?_append_left h]
theorem at0_right{l k:List Int}{i:Nat}:at0 (l++k) (l.length+i)=at0 k i:=by
 unfold at0
 simp only[List.getD_eq_getElem?_getD]
 rw[List.getElem?_append_right (by omega),show l.length+i-l.length=i by omega]
end Go.Ix
