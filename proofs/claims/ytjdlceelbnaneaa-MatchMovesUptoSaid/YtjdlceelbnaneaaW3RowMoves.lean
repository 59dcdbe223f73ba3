/- MatchMoves: for every input of bulk at most 1048576 the law returns true, and its arguments read as they did. -/
import Derived.Test.YtjdlceelbnaneaaWg15
import Derived.Test.YtjdlceelbnaneaaWg18
import Derived.JoinedCond
import Derived.ChangeArms
set_option maxRecDepth 100000
set_option linter.unusedVariables false
namespace Go.Proofs.Ytjdlceelbnaneaa
open Go.ChangeShapes Go.WideShapes Go.ChangeAt Go.RowKit Go.Ix
theorem bulk_one{H:Type}(d:DataW H):1<=Rows.uptoBulk d:=by
 cases d with
 |lit l=>cases l<;>simp[Rows.uptoBulk]
 |nil=>simp[Rows.uptoBulk]
 |ptr d=>simp[Rows.uptoBulk]
 |slice elems spare=>simp[Rows.uptoBulk]
 |agg parts=>simp[Rows.uptoBulk]
 |iface t d=>simp[Rows.uptoBulk]
 |map entries=>simp[Rows.uptoBulk]
 |held h=>simp[Rows.uptoBulk]
theorem bulk_part{H:Type}{d:DataW H}:∀{l:List (DataW H)},d∈l->Rows.uptoBulk d<=Rows.uptoBulkAll l
 |x::r,h=>by
  simp only[Rows.uptoBulkAll]
  rcases xln.mp h with rfl|e
  .omega
  .have:=bulk_part e;omega
theorem bulk_len{H:Type}:∀l:List (DataW H),l.length<=Rows.uptoBulkAll l
 |[]=>by simp[Rows.uptoBulkAll]
 |x::r=>by
  have:=bulk_one x
  have:=bulk_len r
  simp only[Rows.uptoBulkAll,xlm]
  omega
theorem shot_bulk{H:Type}{enc:TypeId×Value->H}{W:World}{spare:Nat->Bool}{held:Bool}{b0:Nat}{F:Nat->Prop}{η:Eta}{ζ:List Nat}{v:Value}{d:DataW H}{ps:List MemPlace}{L S:Int}{b:AV}{l:List Nat}(ht:DataW.Trod enc Try.prog W b0 spare held xv v d ps)(hV:V F W η ζ (.agg [I L,I S,b]) v)(hl:Sl f32E b l):l.length<=Rows.uptoBulk d:=by
 rcases hl with ⟨rfl,rfl⟩|⟨fl,rfl⟩
 .simp
 obtain⟨fuel,h⟩:=ht
 obtain⟨fs,h1,h2⟩:=fs_of (t:=xv) (l:=[(y_int,0),(y_int,1),(xa,2)]) (by kernel_rfl)
 obtain⟨xs,n,-,hx,hlen,hxl,hf⟩:=DataW.trod_struct h1 h
 cases hV with
 |agg cs vs hsz hV=>
  have h3:fs.size=3:=by
   have:=congrArg List.length h2
   simpa using this
  have hfs:∃f,fs[2]?=some f/\f.type=xa/\f.offset=2:=by
   have g:(fs.toList.map λf=>(f.type,f.offset))[2]?=some (xa,2):=by rw[h2];rfl
   rw[xnl,xlg]at g
   obtain⟨f,g1,g2⟩:=g
   simp only[xld]at g2
   exact⟨f,by simpa using g1,g2.1,g2.2⟩
  obtain⟨f,f1,f2,f3⟩:=hfs
  have hq:=hf 2 f f1
  have hs2:vs.size=3:=by rw[hsz];rfl
  have hu:vs[2]?=some vs[2]:=xlp (by omega)
  have hv2:=hV 2 _ _ rfl hu
  have hc1:Try.prog.cellsOf xa=1:=by kernel_rfl
  rw[f2,f3,hc1,xlq (by omega)]at hq
  rcases DataW.trod_slice (e:=x4) (by kernel_rfl) hq with ⟨hc,-⟩|⟨a,len,cap,elems,rest,m,-,hc,hxx,-,-,-,he,-,-⟩
  .exfalso
   have hc':vs[2]=.slice none 0 0:=by
    have h5:(Value.cells (.agg vs)).toList=vs.toList:=by simp[Value.cells]
    rw[h5]at hc
    have h6:(vs.toList.drop 2).take 1=[vs[2]]:=by
     rw[xou (by simpa using(show 2<vs.size by omega))]
     simp
    rw[h6]at hc
    simpa using hc
   rw[hc']at hv2
   cases hv2
  .have hc':vs[2]=.slice (some a) len cap:=by
    have h5:(Value.cells (.agg vs)).toList=vs.toList:=by simp[Value.cells]
    rw[h5]at hc
    have h6:(vs.toList.drop 2).take 1=[vs[2]]:=by
     rw[xou (by simpa using(show 2<vs.size by omega))]
     simp
    rw[h6]at hc
    simpa using hc
   rw[hc']at hv2
   have hll:l.length=len:=by
    cases hv2
    rfl
   have hd:d=.agg (xs.map (·.1)):=congrArg Prod.fst hx
   have hm:(xs[2]'(by omega)).1∈xs.map (·.1):=xly.mpr ⟨_,xm7 _,rfl⟩
   have hb:=bulk_part hm
   rw[hxx]at hb
   have hb2:=bulk_len (elems.map (·.1))
   rw[hd]
   simp only[Rows.uptoBulk]at hb ⊢
   rw[xnm]at hb2
   omega
theorem matchMoves_lifted(os:Os)(started:os.Started)(H:Type)(enc:TypeId×Value->H)(F:Stop.Interp) :
 ReturnsInHanded {} Try.checked os 13 .any ((Rows.OpenSpec.upto Rows.matchMovesSpec).pre6 enc Try.prog Try.f13 Rows.matchMovesUptoRow.domain false) (((Rows.OpenSpec.upto Rows.matchMovesSpec).at F).post enc Try.prog Try.f13 false true false false):=by
 refine returnsInHanded_of_cond (C:=Try.checked) (s:=Rows.OpenSpec.upto Rows.matchMovesSpec) (k:=Rows.uptoSmall) rfl Try.own started (by kernel_rfl) Try.func13
  (OpenSpec.witness (enc:=enc) (C:=Try.checked) (s:=Rows.OpenSpec.upto Rows.matchMovesSpec) (k:=Rows.uptoSmall) rfl false ⟨#[],#[.agg #[.int .i64 0,.int .i64 0,.slice none 0 0],.agg #[.int .i64 0,.int .i64 0],.int .i64 0],[]⟩ 8 (by kernel_rfl) (by kernel_rfl) (by kernel_rfl)
   (x:=([.agg [.lit (.int .i64 0),.lit (.int .i64 0),.nil],.agg [.lit (.int .i64 0),.lit (.int .i64 0)],.lit (.int .i64 0)],[],[])) (by kernel_rfl) rfl (by kernel_rfl)) ?_
 intro W base args ds gs before hval0 hW _ hk _
 have hval:∀(j:Nat) t v,Try.f13.params[j]?=some t->args[j]?=some v->Value.okWide Try.prog W .any base t v:=hval0
 have hW':=hW
 obtain⟨p,q,hA0,hV,rfl,hfz,hnd⟩:=hW
 have hA:DataW.TrodAll enc Try.prog W 0 (λ_=>true) true Try.f13.params.toList args.toList ds p:=hA0
 rw[Try.params13]at hA hval
 obtain⟨v0,v1,v2,d0,d1,d2,p0,p1,p2,rfl,rfl,rfl,t0,t1,t2⟩:=trodAll_three hA
 obtain⟨rfl,rfl⟩:=trodVars_none hV
 obtain⟨a0,s0,w0⟩:=arg_open (k:=5) (by kernel_rfl) (hval 0 _ v0 rfl rfl) t0
 obtain⟨a1,s1,w1⟩:=arg_open (k:=5) (by kernel_rfl) (hval 1 _ v1 rfl rfl) t1
 obtain⟨a2,s2,w2⟩:=arg_open (k:=5) (by kernel_rfl) (hval 2 _ v2 rfl rfl) t2
 obtain⟨L0,S0,b0,l0,rfl,h0⟩:=shot_in s0
 obtain⟨n1,q1,rfl⟩:=two3_in s1
 obtain⟨n2,rfl⟩:=int_in s2
 have hb:l0.length<=1048576:=by
  have h1:=shot_bulk t0 w0 h0
  have h2:Rows.uptoBulkAll ([d0,d1,d2]++[])<=1048576:=xmq hk
  have h3:=bulk_part (show d0∈[d0,d1,d2]++[] by simp)
  omega
 obtain⟨m',hm⟩:=law_MatchMoves L0 S0 h0 n1 q1 n2 hb
 refine(calls_of_E (vs:=#[v0,v1,v2]) (w:=W) hm rfl λi a v ha hv=>?_).mono λe W' ⟨he,hx⟩=>?_
 .match i with
  |0=>simp at ha hv;subst ha hv;exact w0
  |1=>simp at ha hv;subst ha hv;exact w1
  |2=>simp at ha hv;subst ha hv;exact w2
  |i+3=>simp at ha
 subst he
 exact⟨_,rfl,law_post (tb:=x7t) hW' hx rfl rfl rfl (by kernel_rfl) Try.laidOut (by
  rw[Try.params13]
  intro t ht
  simp only[xln,List.not_mem_nil,or_false]at ht
  rcases ht with rfl|rfl|rfl<;>exact⟨by kernel_rfl,xmq (by kernel_rfl)⟩)⟩
theorem matchMoves_holds:Rows.MatchMovesUptoSaid:=
 OpenClaim.holds_of_cond 13 Try.f13 rfl rfl rfl rfl rfl rfl rfl ⟨rfl,rfl,rfl,rfl,rfl⟩ rfl rfl rfl rfl rfl (by kernel_rfl) Try.func13 (by kernel_rfl)
  (xmq (by kernel_rfl)) (by unfold Func.isWrapper;first|(rw[xlb (by decide +kernel)];kernel_rfl)|(rw[xlc (by decide +kernel)];exact⟨rfl,rfl⟩))
  (λos started H enc _ F=>matchMoves_lifted os started H enc F)
end Go.Proofs.Ytjdlceelbnaneaa
