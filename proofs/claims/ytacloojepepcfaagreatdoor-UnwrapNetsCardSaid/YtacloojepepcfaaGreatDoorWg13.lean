import Derived.Test.YtacloojepepcfaaGreatDoorWg11
import Derived.Test.YtacloojepepcfaaGreatDoorWg12
import Derived.Test.YtacloojepepcfaaGreatDoorRows
import Derived.Test.YtacloojepepcfaaGreatDoorFxLaw
import Derived.Test.YtacloojepepcfaaGreatDoorWg1
import Derived.Test.YtacloojepepcfaaGreatDoorCards
import Derived.Test.YtacloojepepcfaaGreatDoorTie
import Derived.Test.YtacloojepepcfaaGreatDoorWg0
import Derived.Stop.LaidErr
import Derived.LaidMore
import Derived.Lay
import Derived.SevenTiedAt
import Derived.Stop.Joined
set_option linter.unusedSimpArgs false
set_option linter.unusedVariables false
set_option maxRecDepth 10000
namespace Go.Ix
open Go.Proofs
def GkL{α:Type}(z:Nat)(enc:α->List AV)(ok:Id->Prop)(m:Mem)(a:AV)(l:List α):Prop:=
 a=.slit (l.flatMap enc) l.length true\/∃id ver,ok id/\a=.sref id ver 0 l.length z true/\m.get id=some (.row (l.flatMap enc) ver false)
theorem GkL.frame{α:Type}{z:Nat}{enc:α->List AV}{a:AV}{l:List α}{ok:Id->Prop}{m m':Mem}(h:GkL z enc ok m a l)(hm:∀id,ok id->m'.get id=m.get id):GkL z enc ok m' a l:=by
 rcases h with h|⟨id,ver,h0,h1,h2⟩
 .exact Or.inl h
 .exact Or.inr ⟨id,ver,h0,h1,by rw[hm _ h0];exact h2⟩
theorem GkL.app{α:Type}{z:Nat}{enc:α->List AV}{a:AV}{l:List α}(hz:∀x,(enc x).length=z)(h0:0<z){bytes:Nat}{ok:Id->Prop}{id0:Id}{m:Mem}(ht:ok id0)(hr:xpc (l.length+1) bytes)(h:GkL z enc ok m a l)(x:α) :
 ∃a' m',(∀{R:Type} (k:AV->Mem->Option R),sApp z bytes id0 (some (enc x,1)) a m k=k a' m')/\GkL z enc ok m' a' (l++[x])/\m'.next=m.next/\∀j:Id,¬ok j->m'.get j=m.get j:=by
 have hl:=xrp hz l
 rcases h with rfl|⟨id,ver,h1,rfl,hg⟩
 .refine⟨.sref id0 0 0 (l.length+1) z true,m.new id0 (.row (l.flatMap enc++enc x) 0 false),λk=>?_,Or.inr ⟨id0,0,ht,by simp,by simp⟩,rfl,λj hj=>?_⟩
  .simp only[sApp]
   rw[x17u (by omega),x17t (by omega),x17u hr,x182 (by omega)]
  .rw[Mem.get_new,x17t (by rintro rfl;exact hj ht)]
 .refine⟨.sref id (ver+1) 0 (l.length+1) z true,m.set id (.row (l.flatMap enc++enc x) (ver+1) false),λk=>?_,Or.inr ⟨id,ver+1,h1,by simp,by simp⟩,rfl,λj hj=>?_⟩
  .simp only[sApp,hg]
   rw[x17u ⟨trivial,trivial,by omega,hr⟩,x17t (by omega),x17t (by rw[hl,x19m];omega),x180,x182 (by omega)]
  .rw[Mem.get_set,x17t (by rintro rfl;exact hj h1)]
theorem GkL.frz{α:Type}{z:Nat}{enc:α->List AV}{a:AV}{l:List α}(hz:∀x,(enc x).length=z)(hs:∀x,(enc x).all still1=true){ok:Id->Prop}{k:Nat}{m:Mem}(h:GkL z enc ok m a l):∃a',Sl enc a' l/\Go.Ix.frz m.get (k+2) a=some a':=by
 have hl:=xrp hz l
 rcases h with rfl|⟨id,ver,_,rfl,hg⟩
 .have h1:Sl enc (.slit (l.flatMap enc) l.length true) l:=Or.inr ⟨true,rfl⟩
  have h2:still (.slit (l.flatMap enc) l.length true)=true:=by simp[still,xr9 hs l]
  exact⟨_,h1,xu6 m.get k h2⟩
 .refine⟨.slit (l.flatMap enc) l.length false,Sl.lit l false,?_⟩
  have:=xsn (objs:=m.get) (id:=id) (cs:=l.flatMap enc) (ver:=ver) (off:=0) (n:=l.length) (z:=z) (k:=k) (f:=false) (x:=true) hg (by omega) (by
   rw[x180,x182 (by omega)];exact xr9 hs l)
  rw[x180,x182 (by omega)]at this
  exact this
theorem x126:∀ws:List (List UInt8),xta (ws.flatMap strE)=some (ws.map λw=>⟨w.toArray⟩)
 |[]=>rfl
 |w::r=>by
  show(xta (r.flatMap strE)).map (λl=>(⟨w.toArray⟩:ByteArray)::l)=_
  rw[x126 r];rfl
theorem w_Join(d:Nat){x:AV}{ws:List (List UInt8)}(hx:Sl strE x ws)(h1:(xqd [32] ws).length<=1099511627776)(h2:ws.length<=1099511627776)(m:Mem):xox (xow (d+1)) x8f [x,Tx [32]] m=some (Tx (xqd [32] ws),m):=by
 have hstx:still x=true:=by
  rcases hx with ⟨rfl,-⟩|⟨b,rfl⟩
  .rfl
  .simp[still,xr9 xyv ws]
 refine Ans.call0 (m:=m) ?_ (by simp only[x18u,x1ai,hstx];rfl) rfl
 have h:xow (d+1) [] x8f [x,Tx [32]] mem0=(tell5 mem0.get [x,Tx [32]]).map λv=>(v,mem0):=by kernel_rfl
 unfold Ans
 rw[h]
 have hl:=xrp xue ws
 have he:∃n,n=ws.length/\elems mem0.get 1 x=some (ws.flatMap strE,n):=by
  rcases hx with ⟨rfl,rfl⟩|⟨b,rfl⟩
  .exact⟨0,rfl,rfl⟩
  .refine⟨_,rfl,?_⟩
   show(if ws.length*1<=(ws.flatMap strE).length then some ((ws.flatMap strE).take (ws.length*1),ws.length)else none)=_
   rw[x17u (by omega),x182 (by omega)]
 obtain⟨n,hn,he⟩:=he
 have hm:(ws.map λw=>(⟨w.toArray⟩:ByteArray)).map (λs=>s.data.toList)=ws:=by
  rw[List.map_map]
  conv=>rhs;rw[<-List.map_id ws]
  apply x1bp
  intro a _;rfl
 have h3:tell5 mem0.get [x,Tx [32]]=match elems mem0.get 1 x with
  |some (cs,n)=>match xta cs with
   |some l=>if(xqd [32] (l.map (·.data.toList))).length<=1099511627776/\n<=1099511627776 then some (.sc (.string ⟨(xqd [32] (l.map (·.data.toList))).toArray⟩))else none
   |none=>none
  |none=>none:=rfl
 rw[h3,he]
 dsimp only
 rw[x126]
 dsimp only
 rw[hm,x17u ⟨h1,by omega⟩]
 exact⟨_,rfl⟩
def xri(e:Edge):List (List UInt8):=[decM e.fr,decM e.to,decM e.jump,decM e.wt]
def xsp(n:Int)(l:List Edge):List UInt8:=xqd [32] (decM n::l.flatMap xri)
def I64(n:Int):Prop:=-9223372036854775808<=n/\n<=9223372036854775807
def Edge.i64(e:Edge):Prop:=I64 e.fr/\I64 e.to/\I64 e.jump/\I64 e.wt
theorem xzb:∀(k u:Nat),(digF k u).length<=k
 |0,u=>x17z _
 |k+1,u=>by
  unfold digF
  split
  .simp
  .have:=xzb k (u / 10)
   simp;omega
theorem xv2(n:Int):(decM n).length<=21:=by
 unfold decM
 split
 .have:=xzb 20 n.natAbs
  simp;omega
 .have:=xzb 20 n.toNat
  omega
theorem xx4:∀ws:List (List UInt8),(∀w∈ws,w.length<=21)->(xqd [32] ws).length<=22*ws.length
 |[],_=>by simp[xqd]
 |[x],h=>by
  have:=h x (by simp)
  simp[xqd];omega
 |x::y::r,h=>by
  have ih:=xx4 (y::r) λw hw=>h w (x183 _ hw)
  have h1:=h x (by simp)
  show(x++([32]++xqd [32] (y::r))).length<=_
  simp at ih ⊢;omega
theorem xzc{n:Int}{l:List Edge}:∀w∈decM n::l.flatMap xri,w.length<=21:=by
 intro w hw
 rcases x186.1 hw with rfl|hw
 .exact xv2 _
 .obtain⟨e,-,he⟩:=x18y.1 hw
  unfold xri at he
  simp only[x186,x1bd,or_false]at he
  rcases he with rfl|rfl|rfl|rfl<;>exact xv2 _
theorem xx5(l:List Edge):(l.flatMap xri).length=4*l.length:=by
 induction l with
 |nil=>rfl
 |cons e l ih=>simp[xri]at ih ⊢;omega
theorem formM_len(n:Int){l:List Edge}(hl:l.length<=700):(xsp n l).length<=100000:=by
 have h1:=xx4 _ (xzc (n:=n) (l:=l))
 have h2:=xx5 l
 unfold xsp
 simp only[x188,h2]at h1
 omega
end Go.Ix
set_option maxRecDepth 100000
namespace Go.Proofs.YtacloojepepcfaaGreatDoor
open Go.ChangeShapes Go.WideShapes Go.ChangeAt Go.RowKit Go.Ix
theorem Tryz.own:ownKnob Tryz.prog.godebug=none:=by kernel_rfl
theorem Tryz.laidOut:laidOutB Tryz.prog=true:=by kernel_rfl
theorem xvz{q:List AV}(h:Sh Tryz.prog xpa q):∃n,q=[I n]/\I64 n:=by
 obtain⟨n,h,hw⟩:=Sh.int_inv (t:=xpa) (k:=.i64) (by kernel_rfl) h
 have e1:IntKind.i64.min=-9223372036854775808:=by kernel_rfl
 have e2:IntKind.i64.max=9223372036854775807:=by kernel_rfl
 have hw:(decide (IntKind.i64.min<=n)&&decide (n<=IntKind.i64.max))=true:=hw
 rw[e1,e2,x17y,x19v,x19v]at hw
 exact⟨n,h,hw⟩
theorem sh_str{q:List AV}(h:Sh Tryz.prog x5 q):∃s,q=[T s]:=by
 have ht:Tryz.prog.underlying x5=some .string:=by kernel_rfl
 cases h with
 |string h' s hs=>exact⟨s,rfl⟩
 |int h'=>rw[ht]at h';cases h'
 |nilS h'=>rw[ht]at h';cases h'
 |slice h'=>rw[ht]at h';cases h'
 |bool h'=>rw[ht]at h';cases h'
 |float h'=>rw[ht]at h';cases h'
 |struct h'=>rw[ht]at h';cases h'
 |array h'=>rw[ht]at h';cases h'
theorem text_in{a:AV}(h:ArgSh Tryz.prog x5 a):∃s,a=T s:=by
 have ht:Tryz.prog.underlying x5=some .string:=by kernel_rfl
 unfold ArgSh at h
 rw[ht]at h
 obtain⟨s,hs⟩:=sh_str h
 exact⟨s,by simpa using hs⟩
theorem fs_of{t:TypeId}{l:List (TypeId×Nat)}(h:((Tryz.prog.underlying t).bind λd=>match d with | .struct fs=>some (fs.toList.map λf=>(f.type,f.offset))|_=>none)=some l):∃fs,Tryz.prog.underlying t=some (.struct fs)/\(fs.toList.map λf=>(f.type,f.offset))=l:=by
 cases hu:Tryz.prog.underlying t with
 |none=>rw[hu]at h;cases h
 |some d=>
  rw[hu]at h
  cases d<;>first|exact⟨_,rfl,by simpa using h⟩|cases h
theorem x127{t:TypeId}{l:List (TypeId×Nat)}{q:List AV}(h:((Tryz.prog.underlying t).bind λd=>match d with | .struct fs=>some (fs.toList.map λf=>(f.type,f.offset))|_=>none)=some l)(hs:Sh Tryz.prog t q):q.length=Tryz.prog.cellsOf t/\∀p∈l,Sh Tryz.prog p.1 ((q.drop p.2).take (Tryz.prog.cellsOf p.1)):=by
 obtain⟨fs,h1,h2⟩:=fs_of h
 obtain⟨hl,hf⟩:=Sh.struct_inv h1 hs
 refine⟨hl,λp hp=>?_⟩
 rw[<-h2]at hp
 obtain⟨f,hf2,rfl⟩:=x18z.mp hp
 exact hf f hf2
theorem edge_sh{r:List AV}(h:Sh Tryz.prog x18 r):∃e:Ix.Edge,r=e.c/\e.i64:=by
 obtain⟨hl,hf⟩:=x127 (t:=x18) (l:=[(xpa,0),(xpa,1),(xpa,2),(xpa,3)]) (by kernel_rfl) h
 have hc:Tryz.prog.cellsOf x18=4:=by kernel_rfl
 have hc3:Tryz.prog.cellsOf xpa=1:=by kernel_rfl
 rw[hc]at hl
 match r,hl with
 |[x0,x1,x2,x3],_=>
  simp only[x186,forall_eq_or_imp]at hf
  obtain⟨g0,g1,g2,g3,-⟩:=hf
  simp only[hc3,x180,x1bv,x1ac,x19h]at g0 g1 g2 g3
  obtain⟨n0,e0,b0⟩:=xvz g0
  obtain⟨n1,e1,b1⟩:=xvz g1
  obtain⟨n2,e2,b2⟩:=xvz g2
  obtain⟨n3,e3,b3⟩:=xvz g3
  simp at e0 e1 e2 e3
  subst e0 e1 e2 e3
  exact⟨⟨n0,n1,n2,n3⟩,rfl,b0,b1,b2,b3⟩
theorem net_in{a:AV}(h:ArgSh Tryz.prog x1e a):∃n ev l,a=.agg [I n,ev]/\Sl Ix.Edge.c ev l/\I64 n/\∀e∈l,Ix.Edge.i64 e:=by
 obtain⟨fs,h1,h2⟩:=fs_of (t:=x1e) (l:=[(xpa,0),(xe,1)]) (by kernel_rfl)
 obtain⟨q,rfl,hq⟩:=h.struct h1
 obtain⟨hl,hf⟩:=x127 (t:=x1e) (l:=[(xpa,0),(xe,1)]) (by kernel_rfl) hq
 have hc:Tryz.prog.cellsOf x1e=2:=by kernel_rfl
 have hc3:Tryz.prog.cellsOf xpa=1:=by kernel_rfl
 have hc4:Tryz.prog.cellsOf xe=1:=by kernel_rfl
 have hu:Tryz.prog.underlying xe=some (.slice x18):=by kernel_rfl
 rw[hc]at hl
 match q,hl with
 |[x,y],_=>
  simp only[x186,forall_eq_or_imp]at hf
  obtain⟨f0,f1,-⟩:=hf
  simp only[hc3,hc4,x180,x1bv,x1ac,x19h]at f0 f1
  obtain⟨n,e0,b0⟩:=xvz f0
  simp at e0
  subst e0
  rcases Sh.slice_inv hu f1 with h1|⟨rows,b,h1,h2,h3,h4⟩
  .simp at h1;subst h1
   exact⟨n,_,[],rfl,Or.inl ⟨rfl,rfl⟩,b0,λe he=>by cases he⟩
  .obtain⟨l,rfl⟩:=x11p (enc:=λe:{e:Ix.Edge // e.i64}=>e.1.c) λr hr=>by
    obtain⟨e,he,hb⟩:=edge_sh (h3 r hr)
    exact⟨⟨e,hb⟩,he⟩
   simp at h1;subst h1
   refine⟨n,_,l.map Subtype.val,rfl,Or.inr ⟨b,by simp[List.flatMap]⟩,b0,λe he=>?_⟩
   obtain⟨x,-,rfl⟩:=x18z.mp he
   exact x.2
end Go.Proofs.YtacloojepepcfaaGreatDoor
namespace Go.Proofs.YtacloojepepcfaaGreatDoor
open Go.ChangeShapes Go.WideShapes Go.ChangeAt Go.RowKit Go.Ix
def laid10:List (String×DataW Unit):=[("math/bits.deBruijn32tab",Rows.laid_math_bits_deBruijn32tab),("math/bits.deBruijn64tab",Rows.laid_math_bits_deBruijn64tab),("internal/strconv.uint64pow10",Rows.laid_internal_strconv_uint64pow10),("unicode/utf8.acceptRanges",Rows.laid_unicode_utf8_acceptRanges),("strconv.ErrRange",Rows.laid_strconv_ErrRange),("strconv.ErrSyntax",Rows.laid_strconv_ErrSyntax),("unicode/utf8.first",Rows.laid_unicode_utf8_first)]
theorem row_es(u:TypeId)(h:Tryz.prog.typeName? 3 u=some "*errors.errorString"):u=182:=
 typeName_ptr_named (nm:="errors.errorString") (by rw[show "*"++"errors.errorString" = "*errors.errorString" by decide];kernel_rfl) (by kernel_rfl) (by decide) u (by rw[show "*"++"errors.errorString" = "*errors.errorString" by decide];exact h)
theorem xzd{P:Program}{W w':World}{n:String}{cs:Array Value}(hx:Ext (λb=>b<W.heap.size) W w')(h:W.var? P n=some cs):w'.var? P n=some cs:=by
 unfold World.var? at h ⊢
 cases hg:P.globalNamed n with
 |none=>simp[hg]at h
 |some g=>
  simp only[hg,x1af]at h ⊢
  have hlt:g<W.heap.size:=by
   rcases x18s g W.heap.size with h'|h'
   .exact h'
   .simp[x19w h']at h
  rw[hx.same g hlt hlt]
  exact h
theorem known_laid{W:World}(h:laidMetH Tryz.prog laid10 W):∀w',Ext (λb=>b<W.heap.size) W w'->xt2 Tryz.prog w':=by
 rw[MakeChecks.laidMetH_plain _ _ _ (by kernel_rfl)]at h
 intro w' hx
 have h1:Lib.TabIs Tryz.prog W "internal/strconv.uint64pow10" .u64 Lib.pow10Tab:=
  Lib.tabIs_of_head (g:=2) (t:=173) (e:=152) (n:=20) (by kernel_rfl) (by kernel_rfl) (by kernel_rfl) (by kernel_rfl) (by kernel_rfl) (by kernel_rfl) (rest:=[("unicode/utf8.acceptRanges",Rows.laid_unicode_utf8_acceptRanges),("strconv.ErrRange",Rows.laid_strconv_ErrRange),("strconv.ErrSyntax",Rows.laid_strconv_ErrSyntax),("unicode/utf8.first",Rows.laid_unicode_utf8_first)]) h.tail.tail
 obtain⟨a1,s1,hv1,-⟩:=laid_sentinel (g:=1) (ti:=78) (tp:=182) (te:=184) (ts:=9) h.tail.tail.tail.tail (by kernel_rfl) (by kernel_rfl) Tryz.underlying78 row_es Tryz.underlying182 Tryz.underlying184 rfl rfl Tryz.underlying9 (by kernel_rfl) (by kernel_rfl)
 obtain⟨a2,s2,hv2,-⟩:=laid_sentinel (g:=0) (ti:=78) (tp:=182) (te:=184) (ts:=9) h.tail.tail.tail.tail.tail (by kernel_rfl) (by kernel_rfl) Tryz.underlying78 row_es Tryz.underlying182 Tryz.underlying184 rfl rfl Tryz.underlying9 (by kernel_rfl) (by kernel_rfl)
 exact⟨λ_=>xzd hx h1,λ_=>⟨⟨_,xzd hx hv2,_,_,rfl⟩,_,xzd hx hv1,_,_,rfl⟩⟩
theorem laid_fits(os:Os):(World.holding Tryz.prog os ⟨#[],#[],[]⟩).layFits Tryz.prog laid10 []=true:=by kernel_rfl
theorem x14f(os:Os):(World.holding Tryz.prog os ⟨#[],#[],[]⟩).layIfaces Tryz.prog laid10 (World.laidAll Tryz.prog os laid10)=true:=by kernel_rfl
theorem laid_met(os:Os)(args:Array Value):laidMetH Tryz.prog laid10 ((World.laidAll Tryz.prog os laid10).forCall (λ_ _=>0) ⟨#[],args,[]⟩).memory:=by
 rw[MakeChecks.laidMetH_plain _ _ _ (by kernel_rfl)]
 exact laidMet_laidAll _ (laid_fits os) (x14f os)
theorem mapsRowed10:mapsRowed Tryz.prog=true:=by kernel_rfl
theorem looks10:true=Tryz.prog.looks []:=by kernel_rfl
end Go.Proofs.YtacloojepepcfaaGreatDoor
namespace Go.Ix
open Go.Proofs
def okN:Id->Prop:=λid=>id.2.2=38
theorem xv3:xb=[I 0,nilS]:=by kernel_rfl
theorem zz_err:xdt=[I 0]:=by kernel_rfl
theorem zz_int:xpy=[I 0]:=by kernel_rfl
theorem zz_ints:xj=[nilS]:=by kernel_rfl
structure PnM (lid:Id) (l:List Int) (m:Mem):Prop where
 n2:m.get (0,0,2)=some (.row [I 0,nilS] 0 false)
 n3:m.get (0,1,3)=some (.row [I 0] 0 false)
 n4:∃v,m.get (0,2,4)=some (.row [v] 0 false)/\Gk 1 intE okN m v l
 lp:m.get lid=some (.lp none)
def PnF(lid:Id)(m:Mem):Prop:=m.get lid=some (.lp (some .ret))/\m.get (0,0,2)=some (.row [I 0,nilS] 0 false)/\m.get (0,1,3)=some (.row [I 7] 0 false)
theorem ld1{m:Mem}{i:Id}{x:AV}(h:m.get i=some (.row [x] 0 false))(hx:x.one=true):sLd false 1 (.ptr i 0 0) m=some x:=by
 rw[xqe h]
 simp[hx]
theorem xto:xp9 xb []=some (.agg [I 0,nilS]):=by kernel_rfl
theorem h_word(d:Nat)(hs:FHs)(u:Nat){lid:Id}(h0:lid.2.2=1){w:List UInt8}(hw:w.length<=100000){l:List Int}{m:Mem}(hl:l.length<=200000)(h:PnM lid l m) :
 match nbrM w 7 with
 |some n=>∃m2,x2h (xow (d+3)) hs u lid (.ptr (0,0,2) 0 0) (.ptr (0,1,3) 0 0) (.ptr (0,2,4) 0 0) (Tx w) m 0=some m2/\PnM lid (l++[n]) m2/\∀j:Id,j.1≠0->j.2.2≠38->m2.get j=m.get j
 |none=>∃m2,x2h (xow (d+3)) hs u lid (.ptr (0,0,2) 0 0) (.ptr (0,1,3) 0 0) (.ptr (0,2,4) 0 0) (Tx w) m 0=some m2/\PnF lid m2:=by
 obtain⟨n2,n3,⟨v,n4,hG⟩,lp⟩:=h
 have hlpn:sLpN lid m=some m:=by unfold sLpN lpB;rw[lp];rfl
 have hne2:((0,0,2):Id)≠lid:=by rintro rfl;cases h0
 have hne3:((0,1,3):Id)≠lid:=by rintro rfl;cases h0
 have hne4:((0,2,4):Id)≠lid:=by rintro rfl;cases h0
 have hb4:((0,0,2):Id)≠(0,2,4):=by decide
 have hb34:((0,1,3):Id)≠(0,2,4):=by decide
 have hb3:((0,1,3):Id)≠(0,0,2):=by decide
 have bad:∃m2,sSt 2 (.ptr (0,0,2) 0 0) (.agg [I 0,nilS]) m (λm_12=>sSt 1 (.ptr (0,1,3) 0 0) (I 7) m_12 λm_13=>sLpX lid .ret m_13)=some m2/\PnF lid m2:=by
  rw[xq6 (z:=2) (x:=.agg [I 0,nilS]) n2 rfl (by simp) rfl]
  obtain⟨m1,hm1⟩:∃m1:Mem,m1=m.set (0,0,2) (.row (xp7 [I 0,nilS] 0 (AV.agg [I 0,nilS]).cells) 0 false):=⟨_,rfl⟩
  rw[<-hm1]
  have k2:m1.get (0,0,2)=some (.row [I 0,nilS] 0 false):=by rw[hm1,Mem.get_set,x17u rfl];rfl
  have k3:m1.get (0,1,3)=some (.row [I 0] 0 false):=by rw[hm1,Mem.get_set,x17t hb3];exact n3
  have kl:m1.get lid=some (.lp none):=by rw[hm1,Mem.get_set,x17t hne2.symm];exact lp
  rw[xq6 (z:=1) (x:=I 7) k3 rfl (by simp) rfl]
  obtain⟨m2,hm2⟩:∃m2:Mem,m2=m1.set (0,1,3) (.row (xp7 [I 0] 0 (I 7).cells) 0 false):=⟨_,rfl⟩
  rw[<-hm2]
  have j2:m2.get (0,0,2)=some (.row [I 0,nilS] 0 false):=by rw[hm2,Mem.get_set,x17t hb3.symm];exact k2
  have j3:m2.get (0,1,3)=some (.row [I 7] 0 false):=by rw[hm2,Mem.get_set,x17u rfl];rfl
  have jl:m2.get lid=some (.lp none):=by rw[hm2,Mem.get_set,x17t hne3.symm];exact kl
  have hlx:sLpX lid .ret m2=some (m2.set lid (.lp (some .ret))):=by unfold sLpX lpB;rw[jl];rfl
  refine⟨_,hlx,?_,?_,?_⟩
  .rw[Mem.get_set,x17u rfl]
  .rw[Mem.get_set,x17t hne2];exact j2
  .rw[Mem.get_set,x17t hne3];exact j3
 have ld4:=ld1 n4 hG.one.2
 rw[<-tst_num w (by omega:7<=18)]
 unfold x2h x8r
 simp only[hlpn,xoy]
 rcases w_Atoi (d+2) (l:=w) (by omega) m with ⟨x,hx,hA⟩|⟨hx,x,hA⟩
 .have hin:=atoi_in hx
  unfold tstM
  rw[hx]
  have hit:=λm=>w_Itoa (d+2) hin.1 hin.2 m
  simp only[hA,xoy,xrw,x192,x193,nil_ne,xt3,xt4,xwt,sW_f,x18b,xpf,hit,x_ne,xq5,xqa]
  by_cases c1:decM x=w
  .have hux:(unsg w).length<=w.length:=by unfold unsg;split<;>simp
   simp only[c1,x184,x18k,x18b,xpf,xoy,w_Trim,xr4,xsm,xq5,xqa,true_and]
   by_cases c2:(unsg w).length<=7
   .have c3:¬(7:Int)<(unsg w).length:=by omega
    rw[x17u c2]
    obtain⟨a',m1,e1,G1,o1,o2,nx1,fr1⟩:=Gk.app (ok:=okN) (l:=l) (bytes:=8) (id0:=(u,0+1+24,38)) xt5 (by omega) rfl (by unfold xpc;omega) hG x
    have n4':m1.get (0,2,4)=some (.row [v] 0 false):=by rw[fr1 _ (by simp[okN])];exact n4
    have el:∀objs,elems objs 1 (.slit [I x] 1 true)=some (intE x,1):=λ_=>rfl
    simp only[c3,x185,xpl,xoy,ld4,zz_int,xub,el]
    rw[e1,xq6 (z:=1) (x:=a') n4' (by rw[o1];rfl) (by simp) (by rw[o1];simp[o2])]
    obtain⟨m2,hm2⟩:∃m2:Mem,m2=m1.set (0,2,4) (.row (xp7 [v] 0 a'.cells) 0 false):=⟨_,rfl⟩
    rw[<-hm2]
    have kl:m2.get lid=some (.lp none):=by rw[hm2,Mem.get_set,x17t hne4.symm,fr1 _ (by unfold okN;rw[h0];simp)];exact lp
    refine⟨m2,by unfold sLpN lpB;rw[kl];rfl,⟨?_,?_,⟨a',?_,?_⟩,kl⟩,λj hj hj2=>?_⟩
    .rw[hm2,Mem.get_set,x17t hb4,fr1 _ (by simp[okN])];exact n2
    .rw[hm2,Mem.get_set,x17t hb34,fr1 _ (by simp[okN])];exact n3
    .rw[hm2,Mem.get_set,x17u rfl,o1];rfl
    .exact G1.frame (m':=m2) λj hj=>by rw[hm2,Mem.get_set,x17t (by rintro rfl;cases hj)]
    .rw[hm2,Mem.get_set,x17t (by rintro rfl;exact hj rfl),fr1 _ hj2]
   .have c3:(7:Int)<(unsg w).length:=by omega
    rw[x17t c2]
    simp only[c3,x184,xph,xoy,xto]
    exact bad
  .rw[x17t (by rintro⟨h,-⟩;exact c1 h)]
   simp only[c1,x185,x18b,x18k,xpf,xoy,xq5,xqa,xph,xto]
   exact bad
 .have ht:tstM w 7=none:=by
   unfold tstM
   split
   .rename_i n h;exact absurd h (hx n)
   .rfl
  rw[ht]
  simp only[hA,xoy,xrw,x192,x193,err_ne,xt3,xt4,xwt,sW_f,x18k,xqa,xq5,xpf,xph,xto]
  exact bad
def xq8:List Int->List Edge
 |a::b::c::d::r=>⟨a,b,c,d⟩::xq8 r
 |_=>[]
theorem x128{q:List Int}:∀{p:List Int},p.length % 4=0->xq8 (p++q)=xq8 p++xq8 q
 |[],_=>rfl
 |[_],h=>by simp at h
 |[_,_],h=>by simp at h
 |[_,_,_],h=>by simp at h
 |a::b::c::d::r,h=>by
  have ih:=x128 (q:=q) (p:=r) (by simp at h;omega)
  show⟨a,b,c,d⟩::xq8 (r++q)=_
  rw[ih];rfl
theorem xx6:∀p:List Int,(xq8 p).length<=p.length
 |[]=>by simp[xq8]
 |[_]=>by simp[xq8]
 |[_,_]=>by simp[xq8]
 |[_,_,_]=>by simp[xq8]
 |a::b::c::d::r=>by
  have ih:=xx6 r
  simp[xq8];omega
theorem x129{L:List Int}{k:Nat}{x0 x1 x2 x3:Int}{r:List Int}(h:L.drop (4*k)=x0::x1::x2::x3::r):xq8 (L.take (4*(k+1)))=xq8 (L.take (4*k))++[⟨x0,x1,x2,x3⟩]:=by
 have hl:4*k+4<=L.length:=by
  have:=congrArg List.length h
  simp at this;omega
 have:L.take (4*(k+1))=L.take (4*k)++[x0,x1,x2,x3]:=by
  rw[show 4*(k+1)=4*k+4 by omega,List.take_add,h];rfl
 rw[this,x128 (by rw[x19n];omega)];rfl
def netL(l:List Int):Int×List Edge×Int:=
 if l.length % 4≠1 then(0,[],7)else
 if(xpo (at0 l 0) (xq8 (l.drop 1))).2≠0 then(0,[],(xpo (at0 l 0) (xq8 (l.drop 1))).2)else(at0 l 0,xq8 (l.drop 1),0)
def xpt(s:List UInt8):Int×List Edge×Int:=match xqi 7 (cutM 32 s)with
 |none=>(0,[],7)
 |some l=>netL l
def ParR(r:Int×List Edge×Int)(v:AV):Prop:=∃e,v=.tup [.agg [I r.1,e],I r.2.2]/\Sl Edge.c e r.2.1
theorem x14g(d:Nat)(s:List UInt8)(c:UInt8)(m:Mem):∃M,xr1 (xow (d+2)) x1k [Tx s,Tx [c]] m=some (.clo xv [.ptr (m.next+1,1,4) 0 0,.ptr (m.next+1,0,3) 0 0,.ptr (m.next+1,2,5) 0 0],M) /\
 M.get (m.next+1,1,4)=some (.row [Tx [c]] 0 false)/\M.get (m.next+1,0,3)=some (.row [Tx s] 0 false)/\M.get (m.next+1,2,5)=some (.row [I 0] 0 false)/\M.next=m.next+2/\∀j:Id,j.1<m.next->M.get j=m.get j:=by
 obtain⟨m',h1,h2,h3,h4,h5⟩:∃m',xow (d+2) [] x1k [Tx s,Tx [c]] ⟨[],m.next⟩=some (.clo xv [.ptr (m.next+1,1,4) 0 0,.ptr (m.next+1,0,3) 0 0,.ptr (m.next+1,2,5) 0 0],m') /\
  m'.get (m.next+1,1,4)=some (.row [Tx [c]] 0 false)/\m'.get (m.next+1,0,3)=some (.row [Tx s] 0 false)/\m'.get (m.next+1,2,5)=some (.row [I 0] 0 false)/\m'.next=m.next+2:=by
  have h2:xow (d+1) [] x1p [Tx s,Tx [c],I 0] ⟨[],m.next+1⟩=some (.clo xv [.ptr (m.next+1,1,4) 0 0,.ptr (m.next+1,0,3) 0 0,.ptr (m.next+1,2,5) 0 0],(((⟨[],m.next+2⟩:Mem).new (m.next+1,0,3) (.row [Tx s] 0 false)).new (m.next+1,1,4) (.row [Tx [c]] 0 false)).new (m.next+1,2,5) (.row [I 0] 0 false)):=by
   rw[xl0];rfl
  obtain⟨M,hc,hn,hj⟩:=call1 (m:=⟨[],m.next+1⟩) (l:=[Tx s,Tx [c],I 0]) rfl h2
  refine⟨M,?_,?_,?_,?_,?_⟩
  .rw[xkq]
   unfold x7m x69
   show(xr1 (xow (d+1)) x1p [Tx s,Tx [c],I 0] ⟨[],m.next+1⟩).bind _=_
   rw[hc];rfl
  .rw[hj,x17u (x17z _)];simp
  .rw[hj,x17u (x17z _)];simp
  .rw[hj,x17u (x17z _)];simp
  .rw[hn];rfl
 obtain⟨M,hc,hn,hj⟩:=call1 (m:=m) (l:=[Tx s,Tx [c]]) rfl h1
 refine⟨M,hc,?_,?_,?_,by omega,λj hlt=>?_⟩
 .rw[hj,x17u (by simp)];exact h2
 .rw[hj,x17u (by simp)];exact h3
 .rw[hj,x17u (by simp)];exact h4
 .rw[hj,x17t (by omega)]
theorem w_Chunk(d:Nat){l:List Int}{v:AV}{m:Mem}(h:Gk 1 intE okN m v l)(hl:1<=l.length) :
 ∃w x m2,xpd Tryz.prog x8 v (some (I 1)) none=some w/\xox (xow (d+1)) x1l [w,I 4] m=some (.clo xo [.plit [.slit ((l.drop 1).flatMap intE) (l.drop 1).length x],.plit [I 4]],m2)/\m2.next=m.next/\∀j:Id,j.2.2≠38->m2.get j=m.get j:=by
 rcases h with ⟨rfl,rfl⟩|⟨id,ver,h0,rfl,hg⟩
 .simp at hl
 have hlf:=xrk l
 have hsl:xpd Tryz.prog x8 (.sref id ver 0 l.length 1 true) (some (I 1)) none=some (.sref id ver 1 (l.length-1) 1 true):=by
  have:=xyx (id:=id) (ver:=ver) (off:=0) (n:=l.length) (full:=true) (lo:=1) (by omega) (by omega)
  simpa using this
 have hstl:(l.flatMap intE).all still1=true:=xr9 xua l
 have hcs:((l.flatMap intE).drop 1).take ((l.length-1)*1)=(l.drop 1).flatMap intE:=by
  have:=xwq xt5 l 1
  rw[Nat.one_mul]at this
  rw[this,x182]
  have:=xrk (l.drop 1)
  simp at this ⊢;omega
 have hfz:=xsn (objs:=m.get) (id:=id) (cs:=l.flatMap intE) (ver:=ver) (off:=1) (n:=l.length-1) (z:=1) (k:=4) (f:=false) (x:=true) hg (by omega) (by rw[hcs];exact xr9 xua _)
 rw[hcs]at hfz
 obtain⟨cs,hcs2⟩:∃cs,cs=(l.drop 1).flatMap intE:=⟨_,rfl⟩
 have hst2:cs.all still1=true:=by rw[hcs2];exact xr9 xua _
 rw[<-hcs2]at hfz
 obtain⟨a,ha⟩:∃a,a=AV.slit cs (l.length-1) false:=⟨_,rfl⟩
 obtain⟨m1,hm1⟩:∃m1:Mem,m1=((⟨[],1⟩:Mem).new (0,0,2) (.row [a] 0 false)).new (0,1,3) (.row [I 4] 0 false):=⟨_,rfl⟩
 have g2:m1.get (0,0,2)=some (.row [a] 0 false):=by rw[hm1];simp
 have g3:m1.get (0,1,3)=some (.row [I 4] 0 false):=by rw[hm1];simp
 have hc:xow (d+1) [] x1l [a,I 4] mem0=some (.clo xo [.ptr (0,0,2) 0 0,.ptr (0,1,3) 0 0],m1):=by
  rw[xks]
  unfold x7o x6b
  have:a.cells=[a]:=by rw[ha];rfl
  have ho:a.one=true:=by rw[ha];rfl
  simp only[xtk,this,x18u,x1ai,ho,x1av,xpf,cells_I]
  simp only[mem0,x187,show(I 4).one=true from rfl,xpf]
  rw[<-hm1]
  unfold x9i x9h
  rw[ld1 g3 rfl]
  simp only[xoy,xq1,show decide ((4:Int)<1)=false from rfl,xpl]
 have hstill:still a=true:=by rw[ha];simp[still,hst2]
 have hr:Go.Ix.frz m1.get deep (.clo xo [.ptr (0,0,2) 0 0,.ptr (0,1,3) 0 0])=some (.clo xo [.plit [a],.plit [I 4]]):=by
  have e4:Go.Ix.frz m1.get 5 (.ptr (0,1,3) 0 0)=some (.plit [I 4]):=by
   show(match m1.get (0,1,3)with
    |some (.row cs v _)=>if v=0 then((cs.drop 0).mapM (Go.Ix.frz m1.get 4)).map AV.plit else none
    |_=>none)=_
   rw[g3];rfl
  have e3:Go.Ix.frz m1.get 5 (.ptr (0,0,2) 0 0)=some (.plit [a]):=by
   show(match m1.get (0,0,2)with
    |some (.row cs v _)=>if v=0 then((cs.drop 0).mapM (Go.Ix.frz m1.get 4)).map AV.plit else none
    |_=>none)=_
   rw[g2]
   simp only[x180,x18h,x196,xu6 m1.get 2 hstill]
   rfl
  show(([AV.ptr (0,0,2) 0 0,.ptr (0,1,3) 0 0].mapM (Go.Ix.frz m1.get 5)).map λl=>AV.clo _ l)=_
  simp only[x18h,x196,e4,e3]
  rfl
 rw[ha]at hr hc
 have hrc:[AV.sref id ver 1 (l.length-1) 1 true,I 4].flatMap (Go.Ix.reach m.get deep)=[id]:=by
  have:=x122 (m:=m) (k:=4) (ver:=ver) (off:=1) (n:=l.length-1) (z:=1) (x:=true) hg hstl
  simp only[x19l,List.flatMap_nil]
  rw[show Go.Ix.reach m.get deep (.sref id ver 1 (l.length-1) 1 true)=[id]from this]
  rfl
 refine⟨_,false,⟨xrd [id] m.hp,m.next⟩,hsl,?_,rfl,λj hj=>xz8 (by rw[x18w];rintro rfl;exact hj h0)⟩
 unfold xox
 rw[show[AV.sref id ver 1 (l.length-1) 1 true,I 4].mapM (Go.Ix.frz m.get deep)=some [.slit cs (l.length-1) false,I 4]from by
  simp only[x18h,x196]
  rw[show Go.Ix.frz m.get deep (.sref id ver 1 (l.length-1) 1 true)=some (.slit cs (l.length-1) false)from hfz]
  rfl]
 dsimp only
 rw[hc]
 dsimp only
 rw[hr,hrc,hcs2,x19i]
 rfl
def okEd:Id->Prop:=λid=>id.2.2=68
structure PnE (f8:Nat) (N:Int) (es:List Edge) (m:Mem):Prop where
 n2:m.get (0,0,2)=some (.row [I 0,nilS] 0 false)
 n3:m.get (0,1,3)=some (.row [I 0] 0 false)
 n8:∃e,m.get (0,f8,8)=some (.row [I N,e] 0 false)/\Gk 4 Edge.c okEd m e es
theorem xx7{cs:List AV}{n k:Nat}{x:Bool}(h:k<n):sIx 1 (.slit cs n x) (I k)=some (.plit (cs.drop k)):=by
 simp[sIx,asI,h]
theorem h_edge(call:xou)(hs:FHs)(u:Nat){f8:Nat}{N:Int}{es:List Edge}{m:Mem}(x0 x1 x2 x3:Int)(hl:es.length<=200000)(h:PnE f8 N es m) :
 ∃m2,x39 call hs u (.ptr (0,f8,8) 0 0) (.slit [I x0,I x1,I x2,I x3] 4 true) m 0=some m2/\PnE f8 N (es++[⟨x0,x1,x2,x3⟩]) m2:=by
 obtain⟨n2,n3,⟨e,n8,hG⟩⟩:=h
 obtain⟨a',m1,e1,G1,o1,o2,nx1,fr1⟩:=Gk.app (ok:=okEd) (l:=es) (bytes:=32) (id0:=(u,0+1+16,68)) Edge.len (by omega) rfl (by unfold xpc;omega) hG ⟨x0,x1,x2,x3⟩
 have n8':m1.get (0,f8,8)=some (.row [I N,e] 0 false):=by rw[fr1 _ (by simp[okEd])];exact n8
 have el:∀objs,elems objs 4 (.slit [I x0,I x1,I x2,I x3] 1 true)=some (Edge.c ⟨x0,x1,x2,x3⟩,1):=λ_=>rfl
 have i0:sIx 1 (.slit [I x0,I x1,I x2,I x3] 4 true) (I 0)=some (.plit [I x0,I x1,I x2,I x3]):=xx7 (k:=0) (by omega)
 have i1:sIx 1 (.slit [I x0,I x1,I x2,I x3] 4 true) (I 1)=some (.plit [I x1,I x2,I x3]):=xx7 (k:=1) (by omega)
 have i2:sIx 1 (.slit [I x0,I x1,I x2,I x3] 4 true) (I 2)=some (.plit [I x2,I x3]):=xx7 (k:=2) (by omega)
 have i3:sIx 1 (.slit [I x0,I x1,I x2,I x3] 4 true) (I 3)=some (.plit [I x3]):=xx7 (k:=3) (by omega)
 have ld8:sLd false 1 (.ptr (0,f8,8) 0 1) m=some e:=by rw[xqe n8];simp[hG.one.2]
 unfold x39 x8o
 simp only[xqw,x187,xoy,ld8,i0,i1,i2,i3,xws,rd_f,x125,mkLit_4,el]
 rw[show 1+16=0+1+16 from rfl,e1]
 rw[xq6 (z:=1) (x:=a') n8' (by rw[o1];rfl) (by simp) (by rw[o1];simp[o2])]
 obtain⟨m2,hm2⟩:∃m2:Mem,m2=m1.set (0,f8,8) (.row (xp7 [I N,e] 1 a'.cells) 0 false):=⟨_,rfl⟩
 rw[<-hm2]
 refine⟨m2,by simp[xoz,disj,tR],⟨?_,?_,⟨a',?_,?_⟩⟩⟩
 .rw[hm2,Mem.get_set,x17t (by simp),fr1 _ (by simp[okEd])];exact n2
 .rw[hm2,Mem.get_set,x17t (by simp),fr1 _ (by simp[okEd])];exact n3
 .rw[hm2,Mem.get_set,x17u rfl,o1];rfl
 .exact G1.frame (m':=m2) λj hj=>by rw[hm2,Mem.get_set,x17t (by rintro rfl;cases hj)]
def GkA(m:Mem)(e:AV)(es:List Edge):Prop:=(e=nilS/\es=[])\/∃id ver b,e=.sref id ver 0 es.length 4 true/\m.get id=some (.row (es.flatMap Edge.c) ver b)
theorem GkA.frz{m:Mem}{e:AV}{es:List Edge}(h:GkA m e es)(k:Nat):∃e',Sl Edge.c e' es/\Go.Ix.frz m.get (k+2) e=some e':=by
 rcases h with ⟨rfl,rfl⟩|⟨id,ver,b,rfl,hg⟩
 .exact⟨nilS,Or.inl ⟨rfl,rfl⟩,rfl⟩
 .have hl:=xrp Edge.len es
  refine⟨.slit (es.flatMap Edge.c) es.length false,Sl.lit es false,?_⟩
  have:=xsn (objs:=m.get) (id:=id) (cs:=es.flatMap Edge.c) (ver:=ver) (off:=0) (n:=es.length) (z:=4) (k:=k) (f:=b) (x:=true) hg (by omega) (by
   rw[x180,x182 (by omega)];exact xr9 Edge.still1 es)
  rw[x180,x182 (by omega)]at this
  exact this
theorem e_net(d:Nat)(hs:FHs)(u:Nat){f8:Nat}{N:Int}{es:List Edge}{m:Mem}(fc:Nat)(h:PnE f8 N es m) :
 RetF (ParR (if(xpo N es).2≠0 then(0,[],(xpo N es).2)else(N,es,0))) (x5m (xow (d+3)) hs u (.ptr (0,0,2) 0 0) (.ptr (0,1,3) 0 0) (.ptr (0,f8,8) 0 0) m fc):=by
 obtain⟨n2,n3,⟨e,n8,hG⟩⟩:=h
 obtain⟨e',he',hfz⟩:=hG.frz (k:=3) Edge.len Edge.still1
 have hck:=xz7 (m:=m) (l:=[.agg [I N,e]]) (l':=[.agg [I N,e']]) (by
  simp only[x18h,x196]
  rw[show Go.Ix.frz m.get deep (.agg [I N,e])=some (.agg [I N,e'])from by
   show(([I N,e].mapM (Go.Ix.frz m.get 5)).map AV.agg)=_
   simp only[x18h,x196,hfz]
   rfl]
  rfl) (by simp[he'.still1]) (λm=>xyn d (n:=N) he' m)
 obtain⟨m2,hm2⟩:∃m2:Mem,m2=⟨xrd ([AV.agg [I N,e]].flatMap (Go.Ix.reach m.get deep)) m.hp,m.next⟩:=⟨_,rfl⟩
 rw[<-hm2]at hck
 have hids:∀i∈[AV.agg [I N,e]].flatMap (Go.Ix.reach m.get deep),i.2.2=68:=by
  intro i hi
  have h1:i∈Go.Ix.reach m.get 5 (I N)++Go.Ix.reach m.get 5 e:=by
   simpa[Go.Ix.reach,deep]using hi
  rcases x19k.1 h1 with h2|h2
  .cases h2
  .exact hG.reachK Edge.still1 3 i h2
 have hfr:∀j:Id,j.2.2≠68->m2.get j=m.get j:=λj hj=>by rw[hm2];exact xz8 λh=>hj (hids j h)
 have k2:m2.get (0,0,2)=some (.row [I 0,nilS] 0 false):=by rw[hfr _ (by simp)];exact n2
 have k3:m2.get (0,1,3)=some (.row [I 0] 0 false):=by rw[hfr _ (by simp)];exact n3
 have k8:m2.get (0,f8,8)=some (.row [I N,e] 0 false):=by rw[hfr _ (by simp)];exact n8
 have hA:GkA m2 e es:=by
  rcases hG with h|⟨id,ver,h0,rfl,hg⟩
  .exact .inl h
  .obtain⟨b,hb⟩:=x121 (ids:=[AV.agg [I N,.sref id ver 0 es.length 4 true]].flatMap (Go.Ix.reach m.get deep)) hg
   exact .inr ⟨id,ver,b,rfl,by rw[hm2];exact hb⟩
 have ho:=hG.one
 have l8:∀{m:Mem} {id:Id},m.get id=some (.row [I N,e] 0 false)->sLd true 2 (.ptr id 0 0) m=some (.agg [I N,e]):=λh=>by
  rw[xqe h];simp[ho.2]
 unfold x5m
 simp only[l8 n8,xoy,hck,xrw,x192,x193,xro]
 by_cases c:(xpo N es).2=0
 .rw[x17t (by simp[c])]
  simp only[c,x184,x18k,xpl,l8 k8,xoy]
  rw[xq6 (z:=2) (x:=.agg [I N,e]) k2 (by rw[xpz];rfl) (by simp) (by rw[xpz];simp[ho.2])]
  obtain⟨m3,hm3⟩:∃m3:Mem,m3=m2.set (0,0,2) (.row (xp7 [I 0,nilS] 0 (AV.agg [I N,e]).cells) 0 false):=⟨_,rfl⟩
  rw[<-hm3]
  have j3:m3.get (0,1,3)=some (.row [I 0] 0 false):=by rw[hm3,Mem.get_set,x17t (by simp)];exact k3
  have j2:m3.get (0,0,2)=some (.row [I N,e] 0 false):=by rw[hm3,Mem.get_set,x17u rfl,xpz];rfl
  rw[xq6 (z:=1) (x:=I 0) j3 rfl (by simp) rfl]
  obtain⟨m4,hm4⟩:∃m4:Mem,m4=m3.set (0,1,3) (.row (xp7 [I 0] 0 (I 0).cells) 0 false):=⟨_,rfl⟩
  rw[<-hm4]
  have i2:m4.get (0,0,2)=some (.row [I N,e] 0 false):=by rw[hm4,Mem.get_set,x17t (by simp)];exact j2
  have i3:m4.get (0,1,3)=some (.row [I 0] 0 false):=by rw[hm4,Mem.get_set,x17u rfl];rfl
  have p2:sLdP true 2 (.ptr (0,0,2) 0 0) m4=some (.agg [I N,e]):=by unfold sLdP;exact l8 i2
  have p3:sLdP false 1 (.ptr (0,1,3) 0 0) m4=some (I 0):=by unfold sLdP;exact ld1 i3 rfl
  simp only[p2,p3,xoy]
  have hA4:GkA m4 e es:=by
   rcases hG with h|⟨id,ver,h0,rfl,hg⟩
   .exact .inl h
   .rcases hA with ⟨h,h'⟩|⟨id',ver',b,h,hb⟩
    .cases h
    .cases h
     refine .inr ⟨id,ver,b,rfl,?_⟩
     rw[hm4,Mem.get_set,x17t (by rintro rfl;cases h0),hm3,Mem.get_set,x17t (by rintro rfl;cases h0)]
     exact hb
  obtain⟨e4,he4,hf4⟩:=hA4.frz 2
  refine RetF.mk (a':=.tup [.agg [I N,e4],I 0]) ?_ ⟨e4,rfl,he4⟩
  show(([AV.agg [I N,e],I 0].mapM (Go.Ix.frz m4.get 5)).map AV.tup)=_
  rw[show[AV.agg [I N,e],I 0].mapM (Go.Ix.frz m4.get 5)=some [.agg [I N,e4],I 0]from by
   simp only[x18h,x196]
   rw[show Go.Ix.frz m4.get 5 (.agg [I N,e])=some (.agg [I N,e4])from by
    show(([I N,e].mapM (Go.Ix.frz m4.get 4)).map AV.agg)=_
    simp only[x18h,x196,hf4]
    rfl]
   rfl]
  rfl
 .rw[x17u c]
  simp only[c,x185,x18b,xph,xto,xoy]
  rw[xq6 (z:=2) (x:=.agg [I 0,nilS]) k2 rfl (by simp) rfl]
  obtain⟨m3,hm3⟩:∃m3:Mem,m3=m2.set (0,0,2) (.row (xp7 [I 0,nilS] 0 (AV.agg [I 0,nilS]).cells) 0 false):=⟨_,rfl⟩
  rw[<-hm3]
  have j3:m3.get (0,1,3)=some (.row [I 0] 0 false):=by rw[hm3,Mem.get_set,x17t (by simp)];exact k3
  have j2:m3.get (0,0,2)=some (.row [I 0,nilS] 0 false):=by rw[hm3,Mem.get_set,x17u rfl];rfl
  rw[xq6 (z:=1) (x:=I (xpo N es).2) j3 rfl (by simp) rfl]
  obtain⟨m4,hm4⟩:∃m4:Mem,m4=m3.set (0,1,3) (.row (xp7 [I 0] 0 (I (xpo N es).2).cells) 0 false):=⟨_,rfl⟩
  rw[<-hm4]
  have i2:m4.get (0,0,2)=some (.row [I 0,nilS] 0 false):=by rw[hm4,Mem.get_set,x17t (by simp)];exact j2
  have i3:m4.get (0,1,3)=some (.row [I (xpo N es).2] 0 false):=by rw[hm4,Mem.get_set,x17u rfl];rfl
  have p2:sLdP true 2 (.ptr (0,0,2) 0 0) m4=some (.agg [I 0,nilS]):=by
   show sLd true 2 (.ptr (0,0,2) 0 0) m4=_
   rw[xqe i2];rfl
  have p3:sLdP false 1 (.ptr (0,1,3) 0 0) m4=some (I (xpo N es).2):=by unfold sLdP;exact ld1 i3 rfl
  simp only[p2,p3,xoy]
  exact RetF.mk (a':=.tup [.agg [I 0,nilS],I (xpo N es).2]) rfl ⟨nilS,rfl,.inl ⟨rfl,rfl⟩⟩
theorem n_net(d:Nat){f:Nat}{l:List Int}{m:Mem}(fc:Nat)(hl:l.length<=200000)(h:PnM (0,f,1) l m) :
 RetF (ParR (netL l)) (x3a (xow (d+3)) [] 0 (.ptr (0,0,2) 0 0) (.ptr (0,1,3) 0 0) (.ptr (0,2,4) 0 0) m fc):=by
 obtain⟨n2,n3,⟨v,n4,hG⟩,lp⟩:=h
 have ld4:=ld1 n4 hG.one.2
 have htm:((l.length:Int)).tmod 4=((l.length % 4:Nat):Int):=by rw[Int.ofNat_tmod];rfl
 unfold x3a
 simp only[ld4,xoy,hG.lenP]
 rw[sRem_I (by decide)]
 simp only[xoy,xro,htm]
 by_cases c:l.length % 4=1
 rotate_left
 .have c':¬((l.length % 4:Nat):Int)=1:=by omega
  simp only[c',x185,x18b,xph,xto,xoy]
  rw[xq6 (z:=2) (x:=.agg [I 0,nilS]) n2 rfl (by simp) rfl]
  obtain⟨m3,hm3⟩:∃m3:Mem,m3=m.set (0,0,2) (.row (xp7 [I 0,nilS] 0 (AV.agg [I 0,nilS]).cells) 0 false):=⟨_,rfl⟩
  rw[<-hm3]
  have j3:m3.get (0,1,3)=some (.row [I 0] 0 false):=by rw[hm3,Mem.get_set,x17t (by simp)];exact n3
  have j2:m3.get (0,0,2)=some (.row [I 0,nilS] 0 false):=by rw[hm3,Mem.get_set,x17u rfl];rfl
  rw[xq6 (z:=1) (x:=I 7) j3 rfl (by simp) rfl]
  obtain⟨m4,hm4⟩:∃m4:Mem,m4=m3.set (0,1,3) (.row (xp7 [I 0] 0 (I 7).cells) 0 false):=⟨_,rfl⟩
  rw[<-hm4]
  have i2:m4.get (0,0,2)=some (.row [I 0,nilS] 0 false):=by rw[hm4,Mem.get_set,x17t (by simp)];exact j2
  have i3:m4.get (0,1,3)=some (.row [I 7] 0 false):=by rw[hm4,Mem.get_set,x17u rfl];rfl
  have p2:sLdP true 2 (.ptr (0,0,2) 0 0) m4=some (.agg [I 0,nilS]):=by
   show sLd true 2 (.ptr (0,0,2) 0 0) m4=_
   rw[xqe i2];rfl
  have p3:sLdP false 1 (.ptr (0,1,3) 0 0) m4=some (I 7):=by unfold sLdP;exact ld1 i3 rfl
  simp only[p2,p3,xoy]
  unfold netL
  rw[x17u c]
  exact RetF.mk (a':=.tup [.agg [I 0,nilS],I 7]) rfl ⟨nilS,rfl,.inl ⟨rfl,rfl⟩⟩
 have c':((l.length % 4:Nat):Int)=1:=by omega
 have hl1:1<=l.length:=by omega
 obtain⟨p,hp,hq⟩:=hG.atP (k:=0) (by omega)
 have hp:sIx 1 v (I 0)=some p:=hp
 obtain⟨N,hN⟩:∃N,N=at0 l 0:=⟨_,rfl⟩
 rw[<-hN]at hq
 have hbn:xp9 [I 0,nilS] [(0,1,I N)]=some (.agg [I N,nilS]):=by simp[xp9,xrc]
 simp only[c',x184,x18k,xpl,ld4,xoy,hp,hq,hbn,xrj,xv3]
 obtain⟨m1,hm1⟩:∃m1:Mem,m1=m.new (0,fc+8,8) (.row [I 0,nilS] 0 false):=⟨_,rfl⟩
 have q8:m1.get (0,fc+8,8)=some (.row [I 0,nilS] 0 false):=by rw[hm1,Mem.get_new,x17u rfl]
 rw[<-hm1,xq6 (z:=2) (x:=.agg [I N,nilS]) q8 rfl (by simp) rfl]
 obtain⟨m2,hm2⟩:∃m2:Mem,m2=m1.set (0,fc+8,8) (.row (xp7 [I 0,nilS] 0 (AV.agg [I N,nilS]).cells) 0 false):=⟨_,rfl⟩
 rw[<-hm2]
 have fr2:∀j:Id,j.2.2≠8->m2.get j=m.get j:=λj hj=>by
  rw[hm2,Mem.get_set,x17t (by rintro rfl;exact hj rfl),hm1,Mem.get_new,x17t (by rintro rfl;exact hj rfl)]
 have r8:m2.get (0,fc+8,8)=some (.row [I N,nilS] 0 false):=by rw[hm2,Mem.get_set,x17u rfl];rfl
 have r4:m2.get (0,2,4)=some (.row [v] 0 false):=by rw[fr2 _ (by simp)];exact n4
 have hG2:Gk 1 intE okN m2 v l:=hG.frame λj hj=>fr2 j (by unfold okN at hj;omega)
 obtain⟨w,x,m3,hsl,hch,hn3,fr3⟩:=w_Chunk (d+2) hG2 hl1
 have ld4':=ld1 r4 hG.one.2
 unfold x8q
 simp only[ld4',xoy,hsl,hch]
 unfold x8p
 simp only[sRng]
 generalize hL:((0,fc+10+3,0):Id)=lid
 generalize hH:(λ(args:List AV) (m:Mem)=>bif Nat.beq args.length 1&&true then x39 (xow (d+3)) [] m.next (.ptr (0,fc+8,8) 0 0) (args.getD 0 U) ⟨m.hp,m.next+1⟩ 0 else none)=H
 have hE3:PnE (fc+8) N [] m3:=by
  refine⟨?_,?_,nilS,?_,Gk.nil⟩
  .rw[fr3 _ (by simp),fr2 _ (by simp)];exact n2
  .rw[fr3 _ (by simp),fr2 _ (by simp)];exact n3
  .rw[fr3 _ (by simp)];exact r8
 have hdl:(l.drop 1).length<=200000:=by rw[x19i];omega
 obtain⟨m4,hc4,hI4⟩:=c_chunks (d+2) (hh:=[(lid,H)]) (id:=lid) (h:=H) (L:=l.drop 1) (x:=x) (by simp[xrv]) (by rw[<-hL]) (by rw[x19i];omega) (by omega) (m0:=m3)
  (λk m=>PnE (fc+8) N (xq8 ((l.drop 1).take (4*k))) m)
  (λk x0 x1 x2 x3 r m hd hI=>by
   have hlen:(xq8 ((l.drop 1).take (4*k))).length<=200000:=by
    have:=xx6 ((l.drop 1).take (4*k))
    rw[x19n]at this
    omega
   obtain⟨m5,h1,h2⟩:=h_edge (xow (d+3)) [] m.next x0 x1 x2 x3 hlen (m:=⟨m.hp,m.next+1⟩) ⟨hI.n2,hI.n3,hI.n8⟩
   rw[<-hH]
   refine⟨m5,h1,?_⟩
   rw[x129 hd]
   exact h2)
  ⟨hE3.n2,hE3.n3,hE3.n8⟩
 rw[show(AV.yld lid::[AV.plit [.slit ((l.drop 1).flatMap intE) (l.drop 1).length x],.plit [I 4]])=[.yld lid,.plit [.slit ((l.drop 1).flatMap intE) (l.drop 1).length x],.plit [I 4]]from rfl,hc4]
 simp only[xoy]
 rw[show 4*((l.drop 1).length / 4)=(l.drop 1).length by rw[x19i];omega,x182 (x17z _)]at hI4
 have:=e_net d [] 0 (fc+10+3+1) hI4
 unfold netL
 rw[x17t (by simp[c]),<-hN]
 exact this
end Go.Ix
