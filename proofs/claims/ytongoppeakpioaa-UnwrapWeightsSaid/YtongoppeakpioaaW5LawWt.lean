import Derived.Test.YtongoppeakpioaaWg14
import Derived.Test.YtongoppeakpioaaWg7
import Derived.Test.YtongoppeakpioaaFxSound
set_option linter.unusedSimpArgs false
set_option linter.unusedVariables false
set_option exponentiation.threshold 3000
set_option maxRecDepth 10000
namespace Go.Ix
open Go.Proofs
theorem xg2{i j:Id}{cs:List AV}{v:Nat}:∀{h:Hp} {b:Bool},hget h i=some (.row cs v b)->∃b',hget (shut1 h j) i=some (.row cs v b'):=by
 intro h b hi
 have:=congrFun (xay [j] h) i
 rw[show x6a [j] h=shut1 h j from rfl]at this
 rw[this]
 unfold shut
 split
 .rw[hi];exact⟨_,rfl⟩
 .exact⟨b,hi⟩
theorem xee{i:Id}{cs:List AV}{v:Nat}:∀(ids:List Id) {h:Hp} {b:Bool},hget h i=some (.row cs v b)->∃b',hget (x6a ids h) i=some (.row cs v b')
 |[],h,b,hi=>⟨b,hi⟩
 |j::r,h,b,hi=>by
  obtain⟨b',h'⟩:=xg2 (j:=j) hi
  exact xee r h'
theorem xef{call:x3p}{f:FuncId}{l l':List AV}{m m':Mem}{r r':AV}(hl:l.mapM (Go.Ix.frz m.get deep)=some l')(h:call [] f l' mem0=some (r,m'))(hr:Go.Ix.frz m'.get deep r=some r') :
 ∃m2:Mem,x3u call f l m=some (r',m2)/\∀i cs v b,m.get i=some (.row cs v b)->∃b',m2.get i=some (.row cs v b'):=by
 refine⟨⟨x6a (l.flatMap (x3o m.get deep)) m.hp,m.next⟩,?_,λi cs v b hi=>xee _ hi⟩
 unfold x3u
 rw[hl]
 simp only[h,hr]
 rfl
def CV(id:Id)(m:Mem)(v:AV)(l:List Nat):Prop:=(v=.slit [] 0 true/\l=[])\/(v=.sref id 0 0 l.length 1 true/\∃b,m.get id=some (.row (l.flatMap f5E) 0 b))
theorem CV.mono{id:Id}{m m2:Mem}{v:AV}{l:List Nat}(h:CV id m v l)(hm:∀cs v b,m.get id=some (.row cs v b)->∃b',m2.get id=some (.row cs v b')):CV id m2 v l:=by
 rcases h with h|⟨h1,b,h2⟩
 .exact .inl h
 .exact .inr ⟨h1,hm _ _ _ h2⟩
theorem CV.frz{id:Id}{m:Mem}{v:AV}{l:List Nat}{k:Nat}(h:CV id m v l):∃a',Sl f5E a' l/\Go.Ix.frz m.get (k+2) v=some a':=by
 rcases h with ⟨rfl,rfl⟩|⟨rfl,b,hg⟩
 .exact⟨.slit [] 0 true,Or.inr ⟨true,rfl⟩,rfl⟩
 .have hl:=x6e f5L l
  have:=x9n (objs:=m.get) (id:=id) (cs:=l.flatMap f5E) (ver:=0) (off:=0) (n:=l.length) (z:=1) (k:=k) (f:=b) (x:=true) hg (by omega) (by
   rw[xgq,xhe (by omega)];exact x8t f5S l)
  rw[xgq,xhe (by omega)]at this
  exact⟨_,Sl.lit l false,this⟩
theorem copy5{a:AV}{l:List Nat}(h:Sl f5E a l)(hl:l.length<=1000)(id:Id)(m:Mem) :
 ∃v m2,(∀{R:Type} (k:AV->Mem->Option R),sApp 1 4 id (elems m.get 1 a) (.slit [] 0 true) m k=k v m2)/\(v.one=true/\v.cells=[v])/\CV id m2 v l/\∀j:Id,j≠id->m2.get j=m.get j:=by
 have hr:x3x l.length 4:=by unfold x3x;omega
 have he:=h.elems f5L m.get
 by_cases hq:l.length=0
 .refine⟨.slit [] 0 true,m,λk=>?_,⟨rfl,rfl⟩,.inl ⟨rfl,List.length_eq_zero_iff.mp hq⟩,λ_ _=>rfl⟩
  rw[he,xe0 hr,xgw hq]
  rfl
 .refine⟨.sref id 0 0 l.length 1 true,m.new id (.row (l.flatMap f5E) 0 false),λk=>?_,⟨rfl,rfl⟩,.inr ⟨rfl,false,by rw[Mem.get_new_same]⟩,λj hj=>Mem.get_new_ne hj⟩
  rw[he,xe0 hr,xhv hq]
  rfl
theorem z_fm:xc=[I 0,I 0,nilS]:=by kernel_rfl
theorem xeg{r c:Int}{v:AV}(h:v.one=true/\v.cells=[v]):x5f xc [(0,1,I r),(1,1,I c),(2,1,v)]=some (.agg [I r,I c,v]):=by
 rw[z_fm]
 simp[x5f,x69,h.1,h.2,x41]
theorem law_UnwrapWeights(r c:Int){a:AV}{l:List Nat}(h:Sl f5E a l):∃m',x3q 31 [] xz [I r,I c,a] mem0=some (B true,m'):=by
 rw[x2t]
 unfold x1x x17
 simp only[mem0,w_awake,x3y,sNot_B,xht,x4k,h.len u_f5,sGt_I]
 by_cases c1:30<l.length
 .simp only[show(30:Int)<(l.length:Int) by omega,xhm,x4f]
  exact⟨_,rfl⟩
 simp only[show ¬(30:Int)<(l.length:Int) by omega,xho,x4k,xe1]
 generalize (⟨[],0+1⟩:Mem)=m0
 have e10:(0:Nat)+10=10:=rfl
 have e12:(0:Nat)+12=12:=rfl
 have e18:(0:Nat)+18=18:=rfl
 simp only[e10,e12,e18]
 obtain⟨v1,m1,A1,o1,C1,f1⟩:=copy5 h (by omega) (0,10,23) m0
 have hb1:=xeg (r:=r) (c:=c) o1
 obtain⟨m2,hm2⟩:∃m2:Mem,m2=(m1.new (0,12,7) (.row xc 0 false)).set (0,12,7) (.row [I r,I c,v1] 0 false):=⟨_,rfl⟩
 have S1:∀{R:Type} (K:Mem->Option R),sSt 3 (.ptr (0,12,7) 0 0) (.agg [I r,I c,v1]) (m1.new (0,12,7) (.row xc 0 false)) K=K m2:=λK=>by
  rw[st_ptr (cs:=xc) (off:=0) (z:=3) (x:=.agg [I r,I c,v1]) (k:=K) (by rw[Mem.get_new_same]) rfl (by rw[z_fm];simp) (by rw[xb7];simp[o1.1]),hm2,z_fm]
  rfl
 have C2:CV (0,10,23) m2 v1 l:=C1.mono λcs v b hb=>⟨b,by rw[hm2,Mem.get_set_ne (by simp),Mem.get_new_ne (by simp)];exact hb⟩
 have g2:m2.get (0,12,7)=some (.row [I r,I c,v1] 0 false):=by rw[hm2,Mem.get_set_same]
 obtain⟨v3,m3,A3,o3,C3,f3⟩:=copy5 h (by omega) (0,18,30) m2
 have hb3:=xeg (r:=r) (c:=c) o3
 have g3:m3.get (0,12,7)=some (.row [I r,I c,v1] 0 false):=by rw[f3 _ (by simp)];exact g2
 have C3':CV (0,10,23) m3 v1 l:=C2.mono λcs v b hb=>⟨b,by rw[f3 _ (by simp)];exact hb⟩
 have fz:∀{m:Mem} {id:Id} {v:AV},CV id m v l->∃a',Sl f5E a' l/\[AV.agg [I r,I c,v]].mapM (Go.Ix.frz m.get deep)=some [.agg [I r,I c,a']]:=λ{m id v} hC=>by
  obtain⟨a',k1,k2⟩:=hC.frz (k:=3)
  refine⟨a',k1,?_⟩
  have e1:Go.Ix.frz m.get deep (.agg [I r,I c,v])=some (.agg [I r,I c,a']):=by
   show([I r,I c,v].mapM (Go.Ix.frz m.get 5)).map AV.agg=_
   have q1:∀x:Int,Go.Ix.frz m.get 5 (I x)=some (I x):=λ_=>rfl
   simp only[xhx,List.mapM_nil,q1,k2]
   rfl
  simp only[xhx,List.mapM_nil,e1]
  rfl
 obtain⟨a4,h4,k4⟩:=fz C3
 obtain⟨x4,M4,y4,p4,q4,s4⟩:=xg0 25 r c h4 (by omega)
 obtain⟨m4,u4,w4⟩:=xef k4 p4 q4
 obtain⟨b4,g4⟩:=w4 _ _ _ _ g3
 have C4:CV (0,10,23) m4 v1 l:=C3'.mono (w4 _)
 obtain⟨a5,h5,k5⟩:=fz C4
 obtain⟨x5,M5,y5,p5,q5,s5⟩:=xg1 27 r c h5 (by omega)
 obtain⟨m5,u5,w5⟩:=xef k5 p5 q5
 obtain⟨pa,pb,i1,i2,rfl⟩:=s4
 obtain⟨qa,qb,i3,i4,rfl⟩:=s5
 have l4:sLd true 3 (.ptr (0,12,7) 0 0) m4=some (.agg [I r,I c,v1]):=by rw[x4c g4];rfl
 have x0:∀(a b:AV) (e:Int),sExt (.tup [a,b,I e]) 0=some a:=λ_ _ _=>rfl
 have x1:∀(a b:AV) (e:Int),sExt (.tup [a,b,I e]) 1=some b:=λ_ _ _=>rfl
 have x2:∀(a b:AV) (e:Int),sExt (.tup [a,b,I e]) 2=some (I e):=λ_ _ _=>rfl
 have hlen:∀(g:Int->Bool) (st:Int) (v:List Int) (n:Nat),(if wtE r c l≠0 then[]else(sideL g st n 0).map (mn2 v)).length<=n:=λg st v n=>by
  split
  .simp
  .rw[xhs];exact x85 g st n 0
 have hn:(if wtE r c l≠0 then 0 else(r*c).toNat)<=1000000:=by
  split
  .omega
  .rename_i hz
   simp only[ne_eq,Decidable.not_not]at hz
   unfold wtE at hz
   by_cases hs:x4l r c l.length=0
   .have:=(sz_0 hs).2.2.2.2;omega
   .rw[xgh hs]at hz;exact absurd hz hs
 have hA:(if wtE r c l≠0 then[]else wAc r c (l.map fvl)).length<=1000000:=by
  by_cases hz:wtE r c l=0
  .rw[xgi (by simp[hz])]at hn ⊢
   unfold wAc;rw[xhs];exact xh8 (x85 _ _ _ _) hn
  .rw[xgh hz];simp
 have hD:(if wtE r c l≠0 then[]else wDn r c (l.map fvl)).length<=1000000:=by
  by_cases hz:wtE r c l=0
  .rw[xgi (by simp[hz])]at hn ⊢
   unfold wDn;rw[xhs];exact xh8 (x85 _ _ _ _) hn
  .rw[xgh hz];simp
 have c4:=λm=>w_Ints 29 i1 i3 hA m
 have c5:=λm=>w_Ints 29 i2 i4 hD m
 simp only[A1,hb1,x3y,xbb,S1,A3,hb3]
 rw[u4]
 simp only[x3y,x0,x1,x2,l4]
 rw[u5]
 simp only[x3y,x0,x1,x2,sEq_I,xhm,x7z,x9m,sW_t,x58,c4,c5,x6t]
 exact⟨_,rfl⟩
end Go.Ix
