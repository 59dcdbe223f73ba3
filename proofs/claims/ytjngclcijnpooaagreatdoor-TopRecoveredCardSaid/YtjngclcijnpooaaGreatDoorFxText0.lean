import Derived.Test.YtjngclcijnpooaaGreatDoorFxConst
set_option linter.all false
open Go.Proofs.Tryz
noncomputable section
namespace Go.Ix
open Go.Proofs
def ID:gG:=λc h u j w x m q=>(aA true 5 j m).bind λy=>(aI c sN [y] m).bind λk=>(aI c wD [w] k.2).bind λl=>(aI c E5 [k.1,l.1] l.2).bind λb=>(cN b.1 0).bind λz=>(cN b.1 1).bind λA=>dH oQ (u,q+8,17) b.2 λn C=>bA 4 n z C λo=>(aA true 5 j o).bind λD=>(aI c sN [D] o).bind λp=>(c h T6 [x] p.2).bind λr=>(aI c E5 [p.1,r.1] r.2).bind λd=>(cN d.1 0).bind λE=>(cN d.1 1).bind λF=>dH oQ (u,q+19,19) d.2 λs G=>bA 4 s E G λH=>(eK A (I 0)).bind λe=>bI e true F H λt=>aL e true (eK t.1 (I 0)) t.2 λf=>(bX e f.1 (B false)).bind λa=>aL a true (aA true 4 n f.2) f.2 λg=>aL a true (aA true 4 s g.2) g.2 λi=>fB a true (aI c ET [g.1,i.1] i.2) i.2 λv=>(bX a v.1 (B false)).bind λJ=>some (J,v.2)
def PG(c:aJ)(h:FHs)(u:Nat)(r:cB):cB:=λf a b d m q=>(aM prog gX a).bind λg=>(cA d g).bind λi=>aK i ((aV 2 a d).bind λj=>(aA true 2 j m).bind λk=>(c h FM [b,k] m).bind λe=>(eA e.1 (I 0)).bind λl=>aK l (some ((B false),e.2)) ((bM d (I 1)).bind λn=>r f a b n e.2 (q+14))) (ID c h u f a b m (q+4))
def Y5(c:aJ)(h:FHs)(u:Nat):Nat->cB
 |0=>λ_ _ _ _ _ _=>none
 |n+1=>PG c h u (Y5 c h u n)
def tz:gG:=λc h u a b d m q=>Y5 c h u NN a b d (I 0) m (q+1)
def PF:gG:=λc h u Y d Z m q=>cX Y (u,q,3) m λf aa=>(aI c bv [] aa).bind λg=>(dN g.1).bind λab=>aK ab (some ((B false),g.2)) ((aA true 5 f g.2).bind λac=>(aI c T9 [ac] g.2).bind λx=>(dN x.1).bind λi=>bI i false d x.2 λn=>fB i false (aI c FQ [n.1] n.2) n.2 λy=>aL i false (dN y.1) y.2 λj=>(bX i (B true) j.1).bind λad=>aK ad (some ((B true),j.2)) ((aA true 5 f j.2).bind λae=>(aI c sN [ae] j.2).bind λz=>(aI c wD [d] z.2).bind λA=>(aI c FN [z.1,A.1] A.2).bind λk=>(cN k.1 0).bind λap=>(cN k.1 1).bind λaf=>(eA af (I 0)).bind λag=>aK ag (some ((B true),k.2)) ((aI c wD [d] k.2).bind λC=>(aI c FK [C.1] C.2).bind λo=>(cN o.1 0).bind λD=>(cN o.1 1).bind λah=>(eD D).bind λai=>(bM ai (I 1)).bind λaj=>(aI c GD [Z,aj] o.2).bind λE=>(dZ prog bN D none (some E.1)).bind λak=>(aI c T4 [ak] E.2).bind λe=>(cN e.1 0).bind λl=>(cN e.1 1).bind λaq=>(cN e.1 2).bind λal=>(aA true 5 f e.2).bind λam=>(aI c sN [am] e.2).bind λF=>(c h T5 [F.1] F.2).bind λp=>(cN p.1 0).bind λG=>(cN p.1 1).bind λan=>(eA ah (I 0)).bind λr=>bI r false al p.2 λH=>aL r false (eA H.1 (I 0)) H.2 λJ=>(bX r (B true) J.1).bind λs=>bI s false an J.2 λK=>aL s false (eA K.1 (I 0)) K.2 λL=>(bX s (B true) L.1).bind λt=>bI t false G L.2 λM=>aL t false (bP prog .eql JW (.tmp 76) (.const (.pointer none)) M.1 (AV.sc (.pointer none))) M.2 λN=>(bX t (B true) N.1).bind λb=>bI b false l N.2 λO=>aL b false (aM prog gX O.1) O.2 λP=>bI b false d P.2 λQ=>aL b false (aM prog gX Q.1) Q.2 λR=>aL b false (eP P.1 R.1) R.2 λS=>(bX b (B true) S.1).bind λa=>bI a false l S.2 λT=>bI a false d T.2 λU=>bI a false l U.2 λV=>aL a false (aM prog gX V.1) V.2 λW=>aL a false (dZ prog gX U.1 none (some W.1)) W.2 λv=>fB a false (aI c EV [T.1,v.1] v.2) v.2 λX=>aL a false (dN X.1) X.2 λw=>(bX a (B true) w.1).bind λao=>aK ao (some ((B false),w.2)) (tz c h u f l G w.2 (q+85)))))
def y':hY:=λc h u m q=>some ((B true),m)
def WY(c:aJ)(h:FHs)(u:Nat)(r:kC):kC:=λa b m q=>(aE 4 a).bind λd=>(aA false 1 d m).bind λe=>(aM prog rZ e).bind λf=>(cA b f).bind λg=>aK g ((aE 4 a).bind λi=>(aA false 1 i m).bind λj=>(aV 2 j b).bind λk=>(aE 0 k).bind λl=>(aA false 1 l m).bind λn=>(eD n).bind λo=>(eP o (I 20)).bind λp=>aK p (some ((B false),m)) ((bM b (I 1)).bind λs=>r a s m (q+16))) (y' c h u m (q+5))
def AU(c:aJ)(h:FHs)(u:Nat):Nat->kC
 |0=>λ_ _ _ _=>none
 |n+1=>WY c h u (AU c h u n)
def j':cG:=λc h u a m q=>AU c h u NN a (I 0) m (q+1)
def WX(c:aJ)(h:FHs)(u:Nat)(s:kC):kC:=λa b m q=>(aE 3 a).bind λd=>(aA false 1 d m).bind λe=>(aM prog rY e).bind λf=>(cA b f).bind λg=>aK g ((aE 3 a).bind λi=>(aA false 1 i m).bind λj=>(aV 4 j b).bind λk=>(aE 0 k).bind λl=>(aA false 1 l m).bind λn=>(eD n).bind λo=>(eP o (I 20)).bind λp=>aK p (some ((B false),m)) ((bM b (I 1)).bind λr=>s a r m (q+16))) (j' c h u a m (q+5))
def AT(c:aJ)(h:FHs)(u:Nat):Nat->kC
 |0=>λ_ _ _ _=>none
 |n+1=>WX c h u (AT c h u n)
def i':cG:=λc h u a m q=>AT c h u NN a (I 0) m (q+1)
def WW(c:aJ)(h:FHs)(u:Nat)(w:kC):kC:=λb d m q=>(aE 2 b).bind λo=>(aA false 1 o m).bind λp=>(aM prog lK p).bind λr=>(cA d r).bind λs=>aK s ((aE 2 b).bind λt=>(aA false 1 t m).bind λv=>(aV 3 v d).bind λx=>(aE 0 x).bind λy=>(aA false 1 y m).bind λz=>(eD z).bind λA=>(eP A (I 20)).bind λa=>aL a false (aE 2 b) m λe=>aL a false (aA false 1 e.1 e.2) e.2 λi=>bI a false d i.2 λj=>aL a false (aV 3 i.1 j.1) j.2 λk=>aL a false (aE 1 k.1) k.2 λf=>aL a false (aA false 1 f.1 f.2) f.2 λl=>aL a false (aM prog pI l.1) l.2 λn=>aL a false (eP n.1 (I 22)) n.2 λg=>(bX a (B true) g.1).bind λC=>aK C (some ((B false),g.2)) ((bM d (I 1)).bind λD=>w b D g.2 (q+26))) (i' c h u b m (q+5))
def AS(c:aJ)(h:FHs)(u:Nat):Nat->kC
 |0=>λ_ _ _ _=>none
 |n+1=>WW c h u (AS c h u n)
def zz:cG:=λc h u a m q=>AS c h u NN a (I 0) m (q+1)
def WV:cG:=λc h u p m q=>cX p (u,q,1) m λd i=>(aE 2 d).bind λr=>(aA false 1 r i).bind λs=>(aM prog lK s).bind λt=>(eP t (I 8)).bind λa=>aL a false (aE 3 d) i λe=>aL a false (aA false 1 e.1 e.2) e.2 λj=>aL a false (aM prog rY j.1) j.2 λk=>aL a false (eP k.1 (I 10)) k.2 λl=>(bX a (B true) l.1).bind λb=>aL b false (aE 4 d) l.2 λf=>aL b false (aA false 1 f.1 f.2) f.2 λn=>aL b false (aM prog rZ n.1) n.2 λo=>aL b false (eP o.1 (I 12)) o.2 λg=>(bX b (B true) g.1).bind λv=>aK v (some ((B false),g.2)) (zz c h u d g.2 (q+18))
def D':cG:=λc h u d m q=>(aM prog gX d).bind λn=>(jI n (I 20)).bind λa=>bI a false d m λe=>aL a false (aM prog gX e.1) e.2 λf=>aL a false (eP f.1 (I 40)) f.2 λg=>bI a false g.1 g.2 λb=>bI b.1 true d b.2 λi=>aL b.1 true (aM prog gX i.1) i.2 λj=>aL b.1 true (jI j.1 (I 42)) j.2 λk=>aL a false (bX b.1 k.1 (B false)) k.2 λl=>(bX a (B true) l.1).bind λo=>some (o,l.2)
def XA(c:aJ)(h:FHs)(u:Nat)(r:kC):kC:=λb d m q=>(aM prog gX b).bind λn=>(cA d n).bind λo=>aK o ((aV 2 b d).bind λp=>(aE 0 p).bind λs=>(aA false 1 s m).bind λt=>(eD t).bind λv=>(eP v (I 20)).bind λa=>bI a false b m λg=>bI a false d g.2 λi=>aL a false (aV 2 g.1 i.1) i.2 λj=>aL a false (aE 1 j.1) j.2 λe=>aL a false (aA false 1 e.1 e.2) e.2 λk=>aL a false (eD k.1) k.2 λl=>aL a false (eP l.1 (I 220)) l.2 λf=>(bX a (B true) f.1).bind λw=>aK w (some ((B false),f.2)) ((bM d (I 1)).bind λx=>r b x f.2 (q+23))) (D' c h u b m (q+4))
def AW(c:aJ)(h:FHs)(u:Nat):Nat->kC
 |0=>λ_ _ _ _=>none
 |n+1=>XA c h u (AW c h u n)
def C':cG:=λc h u a m q=>AW c h u NN a (I 0) m (q+1)
def WZ:cG:=λc h u a m q=>C' c h u a m (q+1)
def JI:cG:=λc h u a m q=>some (a,m)
def xai:bL:=λc h u a b m q=>(cA a (I 0)).bind λd=>aK d ((bM a b).bind λe=>JI c h u e m (q+6)) (JI c h u a m (q+2))
def YA:bL:=λc h u b a m q=>(vU b a).bind λd=>xai c h u d a m (q+5)
def TQ:bL:=λc h u a j m q=>cV L1 [] 0 4 (u,q,29) m λd e=>(aE 3 a).bind λf=>(aA false 1 f e).bind λg=>cK 4 40 (u,q+3,32) (elems e.get 4 g) d e λn o=>cV JU [] 0 2 (u,q+4,33) o λp i=>(aE 4 a).bind λb=>(aA false 1 b i).bind λr=>cK 2 24 (u,q+7,36) (elems i.get 2 r) p i λs t=>(aE 3 a).bind λv=>bA 1 v n t λw=>(aE 4 a).bind λx=>bA 1 x s w λk=>bif(aZ (some [],some [(u,q,29)]) (tR f)&&(aZ (some [],some [(u,q,29)]) (some [],some [(u,q+4,33)])&&(aZ (tR f) (some [],some [(u,q+4,33)])&&(aZ (tX g,tA (u,q+3,32) d) (some [],some [(u,q+4,33)])&&(aZ (some [],some [(u,q,29)]) (tR b)&&(aZ (tX g,tA (u,q+3,32) d) (tR b)&&(aZ (some [],some [(u,q+4,33)]) (tR b)&&true)))))))then (aA true 5 a k).bind λy=>bA 5 j y k λl=>(kY true 5 j l).bind λr0=>some (r0,l)else none
def TP(c:aJ)(h:FHs)(u:Nat)(r:eF):eF:=λa f b m q=>(aE 2 a).bind λl=>(aA false 1 l m).bind λn=>(aM prog lK n).bind λo=>(cA b o).bind λp=>aK p ((aE 2 a).bind λe=>(aA false 1 e m).bind λs=>cV vL [] 0 3 (u,q+8,19) m λg d=>(aE 2 a).bind λi=>(aA false 1 i d).bind λt=>(aV 3 t b).bind λv=>(aE 1 v).bind λj=>(aA false 1 j d).bind λk=>cK 3 24 (u,q+15,26) (elems d.get 3 k) g d λw x=>(aV 3 s b).bind λy=>(aE 1 y).bind λz=>bA 1 z w x λA=>bif(aZ (tR e) (some [],some [(u,q+8,19)])&&(aZ (some [],some [(u,q+8,19)]) (tR i)&&(aZ (some [],some [(u,q+8,19)]) (tR j)&&(aZ (tR e) (tX k,tA (u,q+15,26) g)&&true))))then (bM b (I 1)).bind λB=>r a f B A (q+22)else none) (TQ c h u a f m (q+5))
def AE(c:aJ)(h:FHs)(u:Nat):Nat->eF
 |0=>λ_ _ _ _ _=>none
 |n+1=>TP c h u (AE c h u n)
def xo:bL:=λc h u a b m q=>AE c h u NN a b (I 0) m (q+1)
def TO:cG:=λc h u d m q=>cX d (u,q,1) m λa e=>dH v8 (u,q+1,2) e λf g=>cV JV [] 0 3 (u,q+2,4) g λi b=>(aE 2 a).bind λj=>(aA false 1 j b).bind λk=>cK 3 48 (u,q+5,7) (elems b.get 3 k) i b λl n=>(aE 2 a).bind λo=>bA 1 o l n λp=>xo c h u a f p (q+8)
def TR:cG:=λc h u b m q=>cV oR [] 0 2 (u,q+1,3) m λd a=>cK 2 32 (u,q+3,5) (elems a.get 2 b) d a λe f=>some (e,f)
def WC:bL:=λc h u w x m q=>cX w (u,q,2) m λy z=>dH oQ (u,q+1,4) z λd o=>(aA true 5 y o).bind λA=>(aI c uS [A,x] o).bind λa=>(cN a.1 0).bind λe=>(cN a.1 1).bind λT=>(cN a.1 2).bind λp=>(eA p (I 0)).bind λB=>aK B ((dA oQ []).bind λC=>bA 4 d C a.2 λr=>(kY true 4 d r).bind λr0=>some (AV.tup [r0,p],r)) ((cD e).bind λD=>(aE 2 D).bind λE=>(aE 1 E).bind λF=>(aE 0 F).bind λG=>(aA false 1 G a.2).bind λb=>(aI c EI [b] a.2).bind λi=>(cD e).bind λH=>(aE 2 H).bind λJ=>(aE 1 J).bind λK=>(aE 1 K).bind λs=>(aA false 1 s i.2).bind λf=>(aI c yX [f] i.2).bind λj=>(cD e).bind λL=>(aE 2 L).bind λM=>(aE 1 M).bind λN=>(aE 2 N).bind λk=>(aA false 1 k j.2).bind λl=>(aI c EM [l] j.2).bind λn=>(cD e).bind λO=>(aE 2 O).bind λP=>(aE 1 P).bind λQ=>(aE 3 Q).bind λg=>(aA false 1 g n.2).bind λR=>(aI c yW [R] n.2).bind λt=>(dA oQ [(0,1,i.1),(1,1,j.1),(2,1,n.1),(3,1,t.1)]).bind λS=>bA 4 d S t.2 λv=>bif(Nat.ble 1 (cY 0 [b])&&(Nat.ble 1 (cY 0 [f])&&(Nat.ble 1 (cY 0 [l])&&true)))&&(dJ (some a.2.next) (tR s) (cY 0 [b])&&(dJ (some a.2.next) (tR k) (cY 0 [b])&&(dJ (some a.2.next) (tR k) (cY 0 [f])&&(dJ (some a.2.next) (tR g) (cY 0 [b])&&(dJ (some a.2.next) (tR g) (cY 0 [f])&&(dJ (some a.2.next) (tR g) (cY 0 [l])&&true))))))then (kY true 4 d v).bind λr0=>some (AV.tup [r0,(I 0)],v)else none)
def xak:hY:=λc h u m q=>some ((B true),m)
def YC(c:aJ)(h:FHs)(u:Nat)(r:eF):eF:=λb d a m q=>(aM prog fE b).bind λe=>(cA a e).bind λf=>aK f ((aV 1 b a).bind λg=>(aA false 1 g m).bind λi=>(aV 1 d a).bind λj=>(aA false 1 j m).bind λk=>(eA i k).bind λl=>aK l (some ((B false),m)) ((bM a (I 1)).bind λn=>r b d n m (q+16))) (xak c h u m (q+4))
def BB(c:aJ)(h:FHs)(u:Nat):Nat->eF
 |0=>λ_ _ _ _ _=>none
 |n+1=>YC c h u (BB c h u n)
def xaj:bL:=λc h u a b m q=>BB c h u NN a b (I 0) m (q+1)
def YB:bL:=λc h u a b m q=>(aM prog fE a).bind λd=>(aM prog fE b).bind λe=>(eA d e).bind λf=>aK f (some ((B false),m)) (xaj c h u a b m (q+6))
def WT:bL:=λc h u d e m q=>cX d (u,q,2) m λf b=>(aA true 5 f b).bind λg=>(aI c uS [g,e] b).bind λa=>(cN a.1 0).bind λk=>(cN a.1 1).bind λi=>(cN a.1 2).bind λj=>some (AV.tup [i,j],a.2)
def zo:cG:=λc h u b m q=>(c h DR [b] m).bind λa=>some (AV.tup [a.1,(I 0)],a.2)
def WG(c:aJ)(h:FHs)(u:Nat)(r:dM):dM:=λe n g i f m q=>(cA f i).bind λo=>aK o ((aV 2 g f).bind λp=>(aA true 2 p m).bind λs=>dH oR (u,q+3,8) m λb t=>bA 2 b s t λj=>(aA true 2 b j).bind λv=>(aI c S0 [n,v] j).bind λa=>(aI c C5 [a.1] a.2).bind λd=>(bP prog .add bN (.tmp 24) (.const (.string ⟨#[32]⟩)) d.1 (AV.sc (.string ⟨#[32]⟩))).bind λw=>(aE 0 b).bind λk=>(aA false 1 k d.2).bind λx=>(bP prog .add bN (.tmp 25) (.tmp 27) w x).bind λy=>(bP prog .add bN (.tmp 28) (.const (.string ⟨#[32]⟩)) y (AV.sc (.string ⟨#[32]⟩))).bind λz=>(aE 1 b).bind λl=>(aA false 1 l d.2).bind λA=>(bP prog .add bN (.tmp 29) (.tmp 31) z A).bind λB=>(bP prog .add bN (.tmp 32) (.const (.string ⟨#[10]⟩)) B (AV.sc (.string ⟨#[10]⟩))).bind λC=>(c h DQ [e,C] d.2).bind λD=>bif(Nat.ble 1 (cY 0 [a.1])&&true)&&(dJ (some a.2.next) (tR k) (cY 0 [a.1])&&(dJ (some a.2.next) (tR l) (cY 0 [a.1])&&true))then (bM f (I 1)).bind λE=>r e a.1 g i E D.2 (q+23)else none) (zo c h u e m (q+1))
def AP(c:aJ)(h:FHs)(u:Nat):Nat->dM
 |0=>λ_ _ _ _ _ _ _=>none
 |n+1=>WG c h u (AP c h u n)
def zn:gG:=λc h u a b d m q=>(aM prog gX a).bind λe=>AP c h u NN b d a e (I 0) m (q+3)
def WF:cG:=λc h u b m q=>(aI c FJ [b] m).bind λa=>(eA a.1 (I 0)).bind λd=>aK d (some (AV.tup [(AV.sc (.string ⟨#[]⟩)),a.1],a.2)) (ae 124 5 (u,q+7,5) a.2 λe f=>zn c h u b e (I 1) f (q+9))
def JB:gG:=λc h u a b d m q=>(aA false 1 b m).bind λe=>(eD a).bind λf=>(aA false 1 d m).bind λg=>(eV f g).bind λi=>some (AV.tup [e,i,(I 0)],m)
def zl:xlo:=λc h u lid b l a y m q=>(aI c DO [y,(AV.sc (.string ⟨#[10]⟩))] m).bind λn=>(cN n.1 0).bind λU=>(cN n.1 1).bind λV=>(aI c pR [U,(AV.sc (.string ⟨#[32]⟩))] n.2).bind λf=>(cN f.1 0).bind λW=>(cN f.1 1).bind λX=>(cN f.1 2).bind λY=>(aI c pR [X,(AV.sc (.string ⟨#[32]⟩))] f.2).bind λg=>(cN g.1 0).bind λz=>(cN g.1 1).bind λA=>(cN g.1 2).bind λZ=>(dA oR [(0,1,z),(1,1,A)]).bind λaa=>dH oR (u,q+28,16) g.2 λo ab=>bA 2 o aa ab λp=>(aA false 1 l p).bind λac=>(aA true 2 o p).bind λad=>(aI c S0 [ac,ad] p).bind λr=>(dN V).bind λs=>bI s false Y r.2 λC=>aL s false (dN C.1) C.2 λD=>(bX s (B true) D.1).bind λt=>bI t false Z D.2 λE=>aL t false (dN E.1) E.2 λF=>(bX t (B true) F.1).bind λi=>bI i false z F.2 λv=>fB i false (aI c wE [v.1] v.2) v.2 λG=>aL i false (dN G.1) G.2 λH=>(bX i (B true) H.1).bind λj=>bI j false A H.2 λJ=>aL j false (eD J.1) J.2 λK=>aL j false (eP K.1 (I 200)) K.2 λL=>(bX j (B true) L.1).bind λd=>bI d false W L.2 λM=>bI d false r.1 M.2 λw=>fB d false (aI c C5 [w.1] w.2) w.2 λN=>aL d false (bP prog .neq bN (.tmp 68) (.tmp 70) M.1 N.1) N.2 λx=>(bX d (B true) x.1).bind λk=>aL k false (aA false 1 b x.2) x.2 λO=>aL k false (aM prog gX O.1) O.2 λP=>aL k false (eK P.1 (I 40)) P.2 λe=>(bX k (B true) e.1).bind λae=>aK ae (lN lid (.exit 0) e.2) ((aA false 1 b e.2).bind λQ=>(aA true 2 o e.2).bind λaf=>cV oR [(0,2,af)] 1 2 (u,q+67,80) e.2 λR S=>cK 2 32 (u,q+68,81) (elems S.get 2 R) Q S λag T=>(aA false 1 a T).bind λah=>(eD y).bind λai=>(bM ah ai).bind λaj=>bA 1 b ag T λak=>bA 1 l r.1 ak λal=>bA 1 a aj al λam=>bif(aZ (tR b) (some [],some [(u,q+67,80)])&&(aZ (some [],some [(u,q+67,80)]) (tR a)&&(aZ (tX R,tA (u,q+68,81) Q) (tR a)&&(aZ (tR a) (tS b)&&(aZ (tR a) (tS l)&&true)))))then kX lid am else none)
def JA:xlo:=λc h u lid a b d e m q=>(kX lid m).bind λ_=>zl c h u lid a b d e m (q+1)
def zk:yfc:=λc h u d e f j a k b l m q=>oV l λg caps=>(c (((u,q,1),λargs m=>bif Nat.beq args.length 1&&true then JA c h m.next (u,q,1) a k b (args.getD 0 U) ⟨m.hp,m.next+1⟩ 0 else none)::h) g (.yld (u,q,1)::caps) (m.new (u,q,1) (.lp none))).bind λp=>N4 (u,q,1) p.2 (JB c h u d a b p.2 (q+1)) (some (AV.tup [e,f,j],p.2)) λi=>bif Nat.beq i 0 then JB c h u d a b p.2 (q+1)else none
def zj:jy:=λc h u a d e f g i j m q=>(sH c O8 [a] m).bind λb=>zk c h u a d e f g i j b.1 b.2 (q+2)
def WD:cG:=λc h u a m q=>(eD a).bind λe=>(eP e (I 60000)).bind λf=>aK f (some (AV.tup [nilS,(I 0),(I 8)],m)) (dH xaz (u,q+6,5) m λg i=>dH gI (u,q+7,6) i λb j=>dH gI (u,q+8,7) j λd k=>bA 1 b (I 1) k λl=>bA 1 d (I 0) l λn=>zj c h u a nilS (I 0) (I 0) g b d n (q+11))
def JD:cG:=λc h u b m q=>(c h D3 [b] m).bind λa=>(dA xa3 [(0,1,a.1)]).bind λd=>cX d (u,q+2,44) a.2 λe f=>some (AV.tup [e,(I 0)],f)
def JC(c:aJ)(h:FHs)(u:Nat)(r:eF):eF:=λa e b m q=>(cA b e).bind λi=>aK i ((aE 2 a).bind λf=>(aA false 1 f m).bind λj=>(aE 2 a).bind λk=>(aA false 1 k m).bind λl=>(aV 3 l b).bind λn=>(aE 1 n).bind λo=>(aA false 1 o m).bind λd=>(aI c EJ [d] m).bind λg=>(aV 3 j b).bind λp=>(aE 1 p).bind λs=>bA 1 s g.1 g.2 λt=>bif(Nat.ble 1 (cY 0 [d])&&true)&&(dJ none (tR f) (cY 0 [d])&&true)then (bM b (I 1)).bind λv=>r a e v t (q+18)else none) (JD c h u a m (q+1))
def J4(c:aJ)(h:FHs)(u:Nat):Nat->eF
 |0=>λ_ _ _ _ _=>none
 |n+1=>JC c h u (J4 c h u n)
def zm:cG:=λc h u a m q=>(aE 2 a).bind λb=>(aA false 1 b m).bind λd=>(aM prog lK d).bind λe=>J4 c h u NN a e (I 0) m (q+4)
def WE:cG:=λc h u n m q=>cX n (u,q,1) m λa j=>(aA true 5 a j).bind λo=>(aI c zB [o] j).bind λb=>(eA b.1 (I 0)).bind λp=>aK p (some (AV.tup [(AV.sc (.pointer none)),b.1],b.2)) ((aE 2 a).bind λr=>(aA false 1 r b.2).bind λd=>(sH c R7 [d] b.2).bind λe=>(aE 3 a).bind λk=>(aA false 1 k e.2).bind λf=>(aI c EK [f] e.2).bind λg=>(aE 4 a).bind λi=>(aA false 1 i g.2).bind λs=>(aI c EL [s] g.2).bind λl=>(aE 2 a).bind λt=>bA 1 t e.1 l.2 λv=>(aE 3 a).bind λw=>bA 1 w g.1 v λx=>(aE 4 a).bind λy=>bA 1 y l.1 x λz=>bif(Nat.ble 1 (cY 1 [d])&&(Nat.ble 1 (cY 0 [f])&&true))&&(dJ (some b.2.next) (tR k) (cY 1 [d])&&(dJ (some b.2.next) (tR i) (cY 1 [d])&&(dJ (some b.2.next) (tR i) (cY 0 [f])&&true)))then zm c h u a z (q+23)else none)
def xn:hY:=λc h u m q=>some ((B true),m)
def TN(c:aJ)(h:FHs)(u:Nat)(r:eF):eF:=λb d a m q=>(aM prog gX b).bind λe=>(cA a e).bind λf=>aK f ((aV 2 b a).bind λg=>(aA true 2 g m).bind λi=>(aV 2 d a).bind λj=>(aA true 2 j m).bind λk=>(bP prog .neq lL (.tmp 20) (.tmp 24) i k).bind λl=>aK l (some ((B false),m)) ((bM a (I 1)).bind λn=>r b d n m (q+16))) (xn c h u m (q+4))
def AD(c:aJ)(h:FHs)(u:Nat):Nat->eF
 |0=>λ_ _ _ _ _=>none
 |n+1=>TN c h u (AD c h u n)
def xm:bL:=λc h u a b m q=>AD c h u NN a b (I 0) m (q+1)
def TM:bL:=λc h u a b m q=>(aM prog gX a).bind λd=>(aM prog gX b).bind λe=>(eA d e).bind λf=>aK f (some ((B false),m)) (xm c h u a b m (q+6))
def WI:bL:=λc h u d i m q=>cX i (u,q,3) m λe a=>(bP prog .eql JW (.tmp 7) (.const (.pointer none)) d (AV.sc (.pointer none))).bind λj=>aK j (some ((I 1),a)) ((cD d).bind λk=>(aE 1 k).bind λl=>(aA false 1 l a).bind λn=>(aM prog gX n).bind λo=>(eK o (I 40)).bind λp=>aK p (some ((I 16),a)) ((cD d).bind λr=>(aE 0 r).bind λs=>(aA false 1 s a).bind λt=>(aA true 2 e a).bind λv=>(c h D4 [t,v] a).bind λb=>(eA b.1 (I 0)).bind λw=>aK w (some (b.1,b.2)) ((cD d).bind λx=>(aE 1 x).bind λf=>(aA false 1 f b.2).bind λy=>(aA true 2 e b.2).bind λz=>cV oR [(0,2,z)] 1 2 (u,q+27,31) b.2 λA g=>cK 2 32 (u,q+28,32) (elems g.get 2 A) y g λB C=>(cD d).bind λD=>(aE 1 D).bind λE=>bA 1 E B C λF=>bif(aZ (tR f) (some [],some [(u,q+27,31)])&&true)then some ((I 0),F)else none)))
def WH:cG:=λc h u a m q=>(bP prog .eql JW (.tmp 3) (.const (.pointer none)) a (AV.sc (.pointer none))).bind λd=>aK d (some (nilS,m)) ((cD a).bind λe=>(aE 1 e).bind λf=>(aA false 1 f m).bind λg=>(c h MA [g] m).bind λb=>some (b.1,b.2))
def xj:hY:=λc h u m q=>some ((B true),m)
def TJ(c:aJ)(h:FHs)(u:Nat)(r:eF):eF:=λb d a m q=>(aE 2 b).bind λe=>(aA false 1 e m).bind λf=>(aM prog sA f).bind λg=>(cA a g).bind λi=>aK i ((aE 2 b).bind λj=>(aA false 1 j m).bind λk=>(aV 5 k a).bind λl=>(aA true 5 l m).bind λn=>(aE 2 d).bind λo=>(aA false 1 o m).bind λp=>(aV 5 p a).bind λs=>(aA true 5 s m).bind λt=>(bP prog .neq yA (.tmp 50) (.tmp 55) n t).bind λv=>aK v (some ((B false),m)) ((bM a (I 1)).bind λw=>r b d w m (q+19))) (xj c h u m (q+5))
def AB(c:aJ)(h:FHs)(u:Nat):Nat->eF
 |0=>λ_ _ _ _ _=>none
 |n+1=>TJ c h u (AB c h u n)
def xi:bL:=λc h u a b m q=>AB c h u NN a b (I 0) m (q+1)
def TI:bL:=λc h u G H m q=>cX G (u,q,2) m λe I=>cX H (u,q+1,3) I λf g=>(aE 0 e).bind λJ=>(aA false 1 J g).bind λK=>(dA L0 [(0,1,K)]).bind λL=>(aE 0 f).bind λM=>(aA false 1 M g).bind λN=>(dA L0 [(0,1,N)]).bind λO=>(aI c EX [L,O] g).bind λt=>(dN t.1).bind λb=>aL b false (aE 1 e) t.2 λi=>aL b false (aA false 1 i.1 i.2) i.2 λv=>aL b false (aE 1 f) v.2 λj=>aL b false (aA false 1 j.1 j.2) j.2 λk=>fB b false (aI c EU [v.1,k.1] k.2) k.2 λw=>aL b false (dN w.1) w.2 λx=>(bX b (B true) x.1).bind λa=>aL a false (aE 2 e) x.2 λl=>aL a false (aA false 1 l.1 l.2) l.2 λy=>aL a false (aM prog sA y.1) y.2 λz=>aL a false (aE 2 f) z.2 λn=>aL a false (aA false 1 n.1 n.2) n.2 λA=>aL a false (aM prog sA A.1) A.2 λC=>aL a false (eA z.1 C.1) C.2 λD=>(bX a (B true) D.1).bind λd=>aL d false (aE 3 e) D.2 λo=>aL d false (aA false 1 o.1 o.2) o.2 λE=>aL d false (aE 3 f) E.2 λp=>aL d false (aA false 1 p.1 p.2) p.2 λr=>fB d false (aI c GE [E.1,r.1] r.2) r.2 λF=>aL d false (dN F.1) F.2 λs=>(bX d (B true) s.1).bind λP=>aK P (some ((B false),s.2)) (xi c h u e f s.2 (q+36))
def xy:cG:=λc h u a m q=>some (AV.tup [a,(I 0),(I 0)],m)
def UH(c:aJ)(h:FHs)(u:Nat)(r:cB):cB:=λd e f a m q=>(cA a f).bind λj=>aK j ((aV 2 e a).bind λk=>(aA true 2 k m).bind λl=>dH oR (u,q+4,10) m λg n=>bA 2 g l n λi=>(aA true 2 g i).bind λo=>(c h D4 [d,o] i).bind λb=>(eA b.1 (I 0)).bind λp=>aK p ((bM a (I 1)).bind λs=>some (AV.tup [(AV.sc (.pointer none)),s,b.1],b.2)) ((bM a (I 1)).bind λt=>r d e f t b.2 (q+15))) (xy c h u d m (q+1))
def AJ(c:aJ)(h:FHs)(u:Nat):Nat->cB
 |0=>λ_ _ _ _ _ _=>none
 |n+1=>UH c h u (AJ c h u n)
def xx:bL:=λc h u a b m q=>(aM prog gX a).bind λd=>AJ c h u NN b a d (I 0) m (q+3)
def UG:bL:=λc h u g b m q=>cX g (u,q,2) m λd e=>(aA true 5 d e).bind λi=>(aI c zB [i] e).bind λa=>(eA a.1 (I 0)).bind λj=>aK j (some (AV.tup [(AV.sc (.pointer none)),(I 0),a.1],a.2)) ((aM prog gX b).bind λk=>(eP k (I 40)).bind λl=>aK l (some (AV.tup [(AV.sc (.pointer none)),(I 0),(I 8)],a.2)) ((c h D3 [d] a.2).bind λf=>xx c h u b f.1 f.2 (q+14)))
def VY:bL:=λc h u d e m q=>cX d (u,q,2) m λf g=>cX e (u,q+1,3) g λi a=>(aE 0 f).bind λj=>(aA false 1 j a).bind λk=>(cD k).bind λl=>(aE 2 l).bind λn=>(aA false 1 n a).bind λo=>(fC c EG [o,(AV.clo D8 [i])] a).bind λb=>some (b.1,b.2)
def K5:bL:=λc h u a d m q=>(aA true 4 d m).bind λe=>bA 4 a e m λb=>(kY true 4 a b).bind λr0=>some (r0,b)
def zg:qL:=λc h u d b s t m q=>(aE 1 b).bind λv=>(aA false 1 v m).bind λw=>(aM prog iQ w).bind λx=>(eP x (I 0)).bind λy=>aK y ((aE 0 b).bind λz=>bA 1 z (I 2) m λA=>K5 c h u d b A (q+7)) ((aA false 1 t m).bind λe=>aL e false (aA false 1 s m) m λj=>aL e false (eK j.1 (I 0)) j.2 λk=>(bX e (B true) k.1).bind λa=>aL a false (aE 3 b) k.2 λf=>aL a false (aA false 1 f.1 f.2) f.2 λl=>aL a false (aM prog iQ l.1) l.2 λn=>aL a false (aE 2 b) n.2 λg=>aL a false (aA false 1 g.1 g.2) g.2 λo=>aL a false (aM prog iQ o.1) o.2 λp=>aL a false (bM n.1 p.1) p.2 λr=>aL a false (eP r.1 (I 0)) r.2 λi=>(bX a (B true) i.1).bind λC=>aK C ((aE 0 b).bind λD=>bA 1 D (I 1) i.2 λE=>K5 c h u d b E (q+23)) (K5 c h u d b i.2 (q+21)))
def yz:ka:=λc h u a d m q=>(aE 3 a).bind λe=>(aA false 1 e m).bind λf=>cV pG [(0,1,d)] 1 1 (u,q+3,69) m λg b=>cK 1 16 (u,q+4,70) (elems b.get 1 g) f b λi j=>(aE 3 a).bind λk=>bA 1 k i j λl=>some l
def yy:ka:=λc h u a d m q=>(aE 2 a).bind λe=>(aA false 1 e m).bind λf=>cV pG [(0,1,d)] 1 1 (u,q+3,77) m λg b=>cK 1 16 (u,q+4,78) (elems b.get 1 g) f b λi j=>(aE 2 a).bind λk=>bA 1 k i j λl=>some l
def IY:ka:=λc h u b f m q=>(aA false 1 b m).bind λa=>bI a false f m λd=>aL a false (eK d.1 (I 1)) d.2 λe=>(bX a (B true) e.1).bind λg=>bA 1 b g e.2 λi=>some i
def yx:yfe:=λc h u b d f a m q=>(eK a (I 2)).bind λg=>aK g ((aE 1 b).bind λi=>(aA false 1 i m).bind λj=>cV pG [(0,1,f)] 1 1 (u,q+5,56) m λk e=>cK 1 16 (u,q+6,57) (elems e.get 1 k) j e λl n=>(aE 1 b).bind λo=>bA 1 o l n λp=>IY c h u d a p (q+9)) (IY c h u d a m (q+2))
def yw:jz:=λc h u g i p r s j m q=>(aA true 5 g m).bind λd=>(aA true 3 j m).bind λe=>(aA true 3 j m).bind λa=>(aI c EY [a] m).bind λb=>(aI c FH [d,e,b.1] b.2).bind λf=>(aE 0 g).bind λk=>(aA false 1 k f.2).bind λt=>(cD t).bind λv=>(aE 2 v).bind λl=>(aA false 1 l f.2).bind λw=>(aA false 1 i f.2).bind λx=>(aV 3 w x).bind λy=>(aE 2 y).bind λn=>(aA false 1 n f.2).bind λz=>(aI c ES [f.1,z] f.2).bind λo=>(cN o.1 0).bind λA=>(cN o.1 1).bind λB=>bif(Nat.ble 1 (cY 0 [a])&&(Nat.ble 1 (cY 0 [d,e,b.1])&&true))&&(dJ none (tR g) (cY 0 [a])&&(dJ none (tR j) (cY 0 [a])&&(dJ (some m.next) (tR k) (cY 0 [a])&&(dJ (some m.next) (tR k) (cY 0 [d,e,b.1])&&(dJ (some m.next) (tR l) (cY 0 [a])&&(dJ (some m.next) (tR l) (cY 0 [d,e,b.1])&&(dJ (some m.next) (tR i) (cY 0 [a])&&(dJ (some m.next) (tR i) (cY 0 [d,e,b.1])&&(dJ (some m.next) (tR n) (cY 0 [a])&&(dJ (some m.next) (tR n) (cY 0 [d,e,b.1])&&true))))))))))then yx c h u p r s A o.2 (q+20)else none
def yv:HZ:=λc h u d e a f b g i m q=>aK i (yy c h u a b m q) (yw c h u d e a f b g m q)
def yu:HZ:=λc h u a b d e f g i m q=>(eK i (I 1)).bind λj=>yv c h u a b d e f g j m (q+2)
def yr:yfd:=λc h u d e a f b g i j m q=>aK j (yz c h u a b m q) (yu c h u d e a f b g i m q)
def zf:HZ:=λc h u b d e f g i a m q=>(eK a (I 0)).bind λj=>yr c h u b d e f g i a j m (q+2)
def ze:jz:=λc h u b j k e l f m q=>(aA false 1 e m).bind λn=>(bM n (I 1)).bind λo=>bA 1 e o m λa=>(aE 0 b).bind λp=>(aA false 1 p a).bind λr=>(cD r).bind λs=>(aE 3 s).bind λt=>(aA false 1 t a).bind λv=>(aV 4 v f).bind λw=>(aE 0 w).bind λx=>(aA false 1 x a).bind λy=>(aA true 5 b a).bind λz=>(aI c FI [z,f] a).bind λg=>dH xW (u,q+16,10) g.2 λd A=>bA 3 d g.1 A λi=>(aE 0 d).bind λB=>(aA false 1 B i).bind λC=>zf c h u b j k l y d C i (q+20)
def IZ:jz:=λc h u a b d e f g m q=>ze c h u a b d e f g m (q+1)
def zd:jy:=λc h u e f i a b d j m q=>oV j λg caps=>(c (((u,q,0),λargs m=>bif Nat.beq args.length 1&&true then IZ c h m.next e f a b d (args.getD 0 U) ⟨m.hp,m.next+1⟩ 0 else none)::h) g (.yld (u,q,0)::caps) m).bind λp=>zg c h u i a b d p.2 (q+1)
def za:OQ:=λc h u a b e f g i m q=>(aA true 5 a m).bind λj=>(aA false 1 b m).bind λk=>(aI c T3 [j,k] m).bind λd=>zd c h u a b e f g i d.1 d.2 (q+3)
def VZ:bL:=λc h u d e m q=>cX d (u,q,2) m λf g=>cX e (u,q+1,3) g λi j=>dH YP (u,q+2,4) j λk l=>dH YP (u,q+3,5) l λn o=>dH gI (u,q+4,6) o λa p=>dH JS (u,q+5,7) p λb r=>bA 1 a (I 0) r λs=>bA 1 b (B false) s λt=>za c h u f i k n a b t (q+8)
def zt:hY:=λc h u m q=>some ((I 0),m)
def WS(c:aJ)(h:FHs)(u:Nat)(r:cB):cB:=λf g i a m q=>(cA a i).bind λn=>aK n ((aV 2 g a).bind λo=>(aA true 2 o m).bind λp=>dH JU (u,q+4,11) m λd s=>bA 2 d p s λj=>(aE 0 d).bind λt=>(aA false 1 t j).bind λv=>(fC c rK [v,(AV.clo T7 [f]),a] j).bind λe=>(aE 1 d).bind λw=>(aA false 1 w e.2).bind λx=>(aI c rI [x,(I 1),(I 3)] e.2).bind λk=>(aI c pS [k.1] k.2).bind λl=>cV qP [(0,1,e.1),(1,1,l.1)] 2 1 (u,q+16,123) l.2 λy z=>(aI c uT [y] z).bind λb=>(eA b.1 (I 0)).bind λA=>aK A (some (b.1,b.2)) ((bM a (I 1)).bind λB=>r f g i B b.2 (q+23))) (zt c h u m (q+1))
def AR(c:aJ)(h:FHs)(u:Nat):Nat->cB
 |0=>λ_ _ _ _ _ _=>none
 |n+1=>WS c h u (AR c h u n)
def zr:cG:=λc h u a m q=>(aE 4 a).bind λd=>(aA false 1 d m).bind λb=>(aM prog rZ b).bind λe=>AR c h u NN a b e (I 0) m (q+4)
def WP:cG:=λc h u a m q=>(aE 4 a).bind λb=>(aA false 1 b m).bind λd=>(aM prog rZ d).bind λe=>(eK e (I 0)).bind λf=>aK f (some ((I 10),m)) ((aE 4 a).bind λg=>(aA false 1 g m).bind λi=>(aM prog rZ i).bind λj=>(eP j (I 10)).bind λk=>aK k (some ((I 8),m)) (zr c h u a m (q+10)))
def WN(c:aJ)(h:FHs)(u:Nat)(s:cB):cB:=λg o p e m q=>(cA e p).bind λz=>aK z ((aV 4 o e).bind λA=>(aA true 4 A m).bind λC=>dH L1 (u,q+4,7) m λb D=>bA 4 b C D λr=>(aE 1 b).bind λE=>(aE 0 E).bind λF=>(aA false 1 F r).bind λG=>(aI c rJ [G,(I 100000000)] r).bind λa=>aL a.1 true (aE 1 b) a.2 λt=>aL a.1 true (aE 1 t.1) t.2 λi=>aL a.1 true (aA false 1 i.1 i.2) i.2 λj=>fB a.1 true (aI c rJ [j.1,(I 100000000)] j.2) j.2 λv=>(bX a.1 v.1 (B false)).bind λd=>aL d true (aE 1 b) v.2 λw=>aL d true (aE 2 w.1) w.2 λk=>aL d true (aA false 1 k.1 k.2) k.2 λl=>fB d true (aI c rJ [l.1,(I 100000000)] l.2) l.2 λn=>(bX d n.1 (B false)).bind λH=>(aE 0 b).bind λJ=>(aA false 1 J n.2).bind λK=>(fC c rK [K,(AV.clo E6 [g]),e] n.2).bind λx=>(aI c pS [H] x.2).bind λy=>cV qP [(0,1,x.1),(1,1,y.1)] 2 1 (u,q+31,90) y.2 λL M=>(aI c uT [L] M).bind λf=>(eA f.1 (I 0)).bind λN=>aK N (some (f.1,f.2)) ((bM e (I 1)).bind λO=>s g o p O f.2 (q+38))) (WP c h u g m (q+1))
def J5(c:aJ)(h:FHs)(u:Nat):Nat->cB
 |0=>λ_ _ _ _ _ _=>none
 |n+1=>WN c h u (J5 c h u n)
def zq:cG:=λc h u a m q=>(aE 3 a).bind λd=>(aA false 1 d m).bind λb=>(aM prog rY b).bind λe=>J5 c h u NN a b e (I 0) m (q+4)
def WL:cG:=λc h u a m q=>(aE 3 a).bind λb=>(aA false 1 b m).bind λd=>(aM prog rY d).bind λe=>(eP e (I 8)).bind λf=>aK f (some ((I 8),m)) (zq c h u a m (q+4))
def WK(c:aJ)(h:FHs)(u:Nat)(w:cB):cB:=λe k l a m q=>(cA a l).bind λr=>aK r ((aV 3 k a).bind λs=>(aA true 3 s m).bind λt=>dH JV (u,q+4,4) m λb v=>bA 3 b t v λf=>(aE 0 b).bind λx=>(aA false 1 x f).bind λy=>(fC c rK [y,(AV.clo T8 [e]),a] f).bind λg=>(aE 1 b).bind λz=>(aA false 1 z g.2).bind λi=>(aI c U1 [i] g.2).bind λj=>(aE 2 b).bind λn=>(aA false 1 n j.2).bind λA=>(aI c rI [A,(I 0),(I 1000000)] j.2).bind λo=>(aI c pS [o.1] o.2).bind λp=>cV qP [(0,1,g.1),(1,1,j.1),(2,1,p.1)] 3 1 (u,q+19,49) p.2 λB C=>(aI c uT [B] C).bind λd=>bif(Nat.ble 1 (cY 0 [i])&&true)&&(dJ (some f.next) (tR n) (cY 0 [i])&&true)then (eA d.1 (I 0)).bind λD=>aK D (some (d.1,d.2)) ((bM a (I 1)).bind λE=>w e k l E d.2 (q+26))else none) (WL c h u e m (q+1))
def AQ(c:aJ)(h:FHs)(u:Nat):Nat->cB
 |0=>λ_ _ _ _ _ _=>none
 |n+1=>WK c h u (AQ c h u n)
def zp:cG:=λc h u a m q=>(aE 2 a).bind λd=>(aA false 1 d m).bind λb=>(aM prog lK b).bind λe=>AQ c h u NN a b e (I 0) m (q+4)
def WJ:cG:=λc h u k m q=>cX k (u,q,1) m λd g=>(aE 0 d).bind λl=>(aA false 1 l g).bind λn=>(aI c rI [n,(I 1),(I 10000)] g).bind λi=>(dN i.1).bind λa=>aL a false (aE 1 d) i.2 λe=>aL a false (aA false 1 e.1 e.2) e.2 λf=>fB a false (aI c rI [f.1,(I 0),(I 2048)] f.2) f.2 λj=>aL a false (dN j.1) j.2 λb=>(bX a (B true) b.1).bind λo=>aK o (some ((I 2),b.2)) ((aE 2 d).bind λp=>(aA false 1 p b.2).bind λr=>(aM prog lK r).bind λs=>(eP s (I 6)).bind λt=>aK t (some ((I 8),b.2)) (zp c h u d b.2 (q+18)))
def IU:cG:=λc h u a m q=>(dA oQ []).bind λb=>(dA tO [(0,1,a),(1,4,b)]).bind λd=>(dA JQ [(0,1,a),(2,5,d)]).bind λe=>cX e (u,q+6,8) m λf g=>some (f,g)
def VU:bL:=λc h u a b m q=>cX a (u,q,2) m λd e=>cX b (u,q+1,3) e λf g=>some ((AV.clo zA [d,f]),g)
def SX:cG:=λc h u a m q=>(bP prog .eql gX (.tmp 3) (.const (.slice none 0 0)) a nilS).bind λd=>aK d (some (nilS,m)) (cV oR [] 0 2 (u,q+3,5) m λe b=>cK 2 32 (u,q+5,7) (elems b.get 2 a) e b λf g=>some (f,g))
def SS:cG:=λc h u a m q=>(bP prog .eql kJ (.tmp 3) (.const (.slice none 0 0)) a nilS).bind λd=>aK d (some (nilS,m)) (cV pH [] 0 3 (u,q+3,5) m λe b=>cK 3 32 (u,q+5,7) (elems b.get 3 a) e b λf g=>some (f,g))
def IQ:cG:=λc h u a m q=>(bP prog .eql mW (.tmp 3) (.const (.slice none 0 0)) a nilS).bind λd=>aK d (some (nilS,m)) (cV tP [] 0 4 (u,q+3,5) m λe b=>cK 4 32 (u,q+5,7) (elems b.get 4 a) e b λf g=>some (f,g))
def SW:cG:=λc h u a m q=>(bP prog .eql sA (.tmp 3) (.const (.slice none 0 0)) a nilS).bind λd=>aK d (some (nilS,m)) (cV vM [] 0 5 (u,q+3,5) m λe b=>cK 5 40 (u,q+5,7) (elems b.get 5 a) e b λf g=>some (f,g))
def IP:cG:=λc h u a m q=>(bP prog .eql fE (.tmp 3) (.const (.slice none 0 0)) a nilS).bind λd=>aK d (some (nilS,m)) (cV gI [] 0 1 (u,q+3,5) m λe b=>cK 1 8 (u,q+5,7) (elems b.get 1 a) e b λf g=>some (f,g))
def zi:hY:=λc h u m q=>some ((I 0),m)
def WB(c:aJ)(h:FHs)(u:Nat)(r:eF):eF:=λf g d m q=>(cA d g).bind λj=>aK j ((aV 2 f d).bind λk=>(aA true 2 k m).bind λl=>dH oR (u,q+3,4) m λb n=>bA 2 b l n λi=>(aE 0 b).bind λo=>(aA false 1 o i).bind λp=>(aI c wE [p] i).bind λa=>(dN a.1).bind λs=>aK s (some ((I 4),a.2)) ((aE 1 b).bind λt=>(aA false 1 t a.2).bind λv=>(eD v).bind λw=>(eP w (I 200)).bind λx=>aK x (some ((I 8),a.2)) ((aE 1 b).bind λy=>(aA false 1 y a.2).bind λz=>(aI c C4 [z,(AV.sc (.string ⟨#[10]⟩))] a.2).bind λe=>aK e.1 (some ((I 7),e.2)) ((bM d (I 1)).bind λA=>r f g A e.2 (q+21))))) (zi c h u m (q+1))
def AO(c:aJ)(h:FHs)(u:Nat):Nat->eF
 |0=>λ_ _ _ _ _=>none
 |n+1=>WB c h u (AO c h u n)
def zh:cG:=λc h u a m q=>(aM prog gX a).bind λb=>AO c h u NN a b (I 0) m (q+3)
def WA:cG:=λc h u a m q=>(aM prog gX a).bind λb=>(eP b (I 40)).bind λd=>aK d (some ((I 8),m)) (zh c h u a m (q+4))
def xv:cG:=λc h u a m q=>some (a,m)
def UB(c:aJ)(h:FHs)(u:Nat)(r:cB):cB:=λb d e a m q=>(cA a e).bind λf=>aK f ((aV 1 d a).bind λg=>(aA false 1 g m).bind λi=>(nA (I 257) b).bind λj=>(lO prog eI dP i).bind λk=>(bM j k).bind λl=>(bM l (I 1)).bind λn=>(vU n (I 998244353)).bind λo=>(bM a (I 1)).bind λp=>r o d e p m (q+14)) (xv c h u b m (q+1))
def AH(c:aJ)(h:FHs)(u:Nat):Nat->cB
 |0=>λ_ _ _ _ _ _=>none
 |n+1=>UB c h u (AH c h u n)
def xu:bL:=λc h u d a m q=>(aE 0 a).bind λe=>(aA false 1 e m).bind λf=>(bP prog .add bN (.tmp 8) (.const (.string ⟨#[10]⟩)) f (AV.sc (.string ⟨#[10]⟩))).bind λg=>(aE 1 a).bind λi=>(aA false 1 i m).bind λj=>(bP prog .add bN (.tmp 9) (.tmp 11) g j).bind λk=>(bP prog .add bN (.tmp 12) (.const (.string ⟨#[10]⟩)) k (AV.sc (.string ⟨#[10]⟩))).bind λl=>(lO prog bN qQ l).bind λb=>(aM prog qQ b).bind λn=>AH c h u NN d b n (I 0) m (q+10)
def UA:bL:=λc h u a b m q=>cX b (u,q,3) m λd e=>xu c h u a d e (q+2)
def ug:cG:=λc h u a m q=>cX a (u,q,1) m λb d=>some ((AV.clo yT [b]),d)
def PP:bL:=λc h u b d m q=>(aI c FU [b,d] m).bind λa=>(cN a.1 0).bind λe=>(cN a.1 1).bind λf=>some (AV.tup [e,f],a.2)
def PO:bL:=λc h u b d m q=>(aI c FV [b,d] m).bind λa=>(cN a.1 0).bind λe=>(cN a.1 1).bind λf=>(cN a.1 2).bind λg=>some (AV.tup [e,f,g],a.2)
def yc:cG:=λc h u b m q=>(bP prog .neq bN (.tmp 47) (.const (.string ⟨#[]⟩)) b (AV.sc (.string ⟨#[]⟩))).bind λa=>bI a true b m λd=>aL a true (eD d.1) d.2 λe=>aL a true (jI e.1 (I 12)) e.2 λf=>(bX a f.1 (B false)).bind λg=>some (g,f.2)
def UO(c:aJ)(h:FHs)(u:Nat)(r:cB):cB:=λn o p g m q=>(cA g p).bind λM=>aK M ((aV 1 o g).bind λN=>(aA false 1 N m).bind λa=>(bP prog .geq eI (.tmp 14) (.const (.int .u8 97)) a (AV.sc (.int .u8 97))).bind λk=>bI k true a m λs=>aL k true (bP prog .leq eI (.tmp 17) (.const (.int .u8 122)) s.1 (AV.sc (.int .u8 122))) s.2 λt=>(bX k t.1 (B false)).bind λe=>bI e false a t.2 λv=>aL e false (bP prog .geq eI (.tmp 21) (.const (.int .u8 65)) v.1 (AV.sc (.int .u8 65))) v.2 λw=>bI e false w.1 w.2 λi=>bI i.1 true a i.2 λx=>aL i.1 true (bP prog .leq eI (.tmp 24) (.const (.int .u8 90)) x.1 (AV.sc (.int .u8 90))) x.2 λy=>aL e false (bX i.1 y.1 (B false)) y.2 λz=>(bX e (B true) z.1).bind λO=>(dN O).bind λf=>bI f true g z.2 λA=>aL f true (eK A.1 (I 0)) A.2 λC=>bI f true C.1 C.2 λb=>bI b.1 false a b.2 λD=>aL b.1 false (bP prog .neq eI (.tmp 34) (.const (.int .u8 45)) D.1 (AV.sc (.int .u8 45))) D.2 λE=>bI b.1 false E.1 E.2 λd=>bI d.1 true a d.2 λF=>aL d.1 true (bP prog .lss eI (.tmp 37) (.const (.int .u8 48)) F.1 (AV.sc (.int .u8 48))) F.2 λG=>bI d.1 true G.1 G.2 λj=>bI j.1 false a j.2 λH=>aL j.1 false (bP prog .gtr eI (.tmp 40) (.const (.int .u8 57)) H.1 (AV.sc (.int .u8 57))) H.2 λJ=>aL d.1 true (bX j.1 (B true) J.1) J.2 λK=>aL b.1 false (bX d.1 K.1 (B false)) K.2 λL=>aL f true (bX b.1 (B true) L.1) L.2 λl=>(bX f l.1 (B false)).bind λP=>aK P (some ((B false),l.2)) ((bM g (I 1)).bind λQ=>r n o p Q l.2 (q+41))) (yc c h u n m (q+1))
def J2(c:aJ)(h:FHs)(u:Nat):Nat->cB
 |0=>λ_ _ _ _ _ _=>none
 |n+1=>UO c h u (J2 c h u n)
def yb:cG:=λc h u a m q=>(lO prog bN qQ a).bind λb=>(aM prog qQ b).bind λd=>J2 c h u NN a b d (I 0) m (q+4)
def UN:cG:=λc h u a m q=>yb c h u a m (q+1)
def SY:cG:=λc h u a m q=>(bP prog .eql lK (.tmp 3) (.const (.slice none 0 0)) a nilS).bind λd=>aK d (some (nilS,m)) (cV JV [] 0 3 (u,q+3,5) m λe b=>cK 3 48 (u,q+5,7) (elems b.get 3 a) e b λf g=>some (f,g))
def SU:cG:=λc h u a m q=>(bP prog .eql rY (.tmp 3) (.const (.slice none 0 0)) a nilS).bind λd=>aK d (some (nilS,m)) (cV L1 [] 0 4 (u,q+3,5) m λe b=>cK 4 40 (u,q+5,7) (elems b.get 4 a) e b λf g=>some (f,g))
def SV:cG:=λc h u a m q=>(bP prog .eql rZ (.tmp 3) (.const (.slice none 0 0)) a nilS).bind λd=>aK d (some (nilS,m)) (cV JU [] 0 2 (u,q+3,5) m λe b=>cK 2 24 (u,q+5,7) (elems b.get 2 a) e b λf g=>some (f,g))
def ST:cG:=λc h u a m q=>(bP prog .eql pI (.tmp 3) (.const (.slice none 0 0)) a nilS).bind λd=>aK d (some (nilS,m)) (cV vL [] 0 3 (u,q+3,5) m λe b=>cK 3 24 (u,q+5,7) (elems b.get 3 a) e b λf g=>some (f,g))
def IV:OQ:=λc h u a g o p r s m q=>(cD a).bind λt=>(aE 0 t).bind λv=>(aA false 1 v m).bind λw=>(cD w).bind λx=>(aE 4 x).bind λy=>(aA false 1 y m).bind λz=>(aV 2 z o).bind λA=>(aE 1 A).bind λB=>(aA false 1 B m).bind λC=>(cA C s).bind λD=>aK D (some ((I 24),m)) ((bP prog .eql bN (.tmp 60) (.const (.string ⟨#[102,105,120]⟩)) p (AV.sc (.string ⟨#[102,105,120]⟩))).bind λE=>aK E ((c h S6 [a,r] m).bind λi=>some (i.1,i.2)) ((cD a).bind λF=>(aE 2 F).bind λG=>(aA true 5 G m).bind λH=>dH tO (u,q+19,13) m λb J=>bA 5 b H J λf=>(aE 1 g).bind λK=>(aA false 1 K f).bind λL=>(cD a).bind λM=>(aE 1 M).bind λN=>(aA false 1 N f).bind λO=>(aM prog iQ O).bind λP=>(bM P (I 1)).bind λQ=>(c h wI [b,L,Q] f).bind λd=>(eA d.1 (I 0)).bind λR=>aK R (some (d.1,d.2)) ((cD a).bind λS=>(aE 1 S).bind λj=>(aA false 1 j d.2).bind λT=>(aI c EN [T] d.2).bind λe=>(aE 1 g).bind λU=>(aA false 1 U e.2).bind λV=>cV pG [(0,1,V)] 1 1 (u,q+42,90) e.2 λk l=>cK 1 16 (u,q+43,91) (elems l.get 1 k) e.1 l λW n=>(aA true 5 b n).bind λX=>(cD a).bind λY=>(aE 1 Y).bind λZ=>bA 1 Z W n λaa=>(cD a).bind λab=>(aE 2 ab).bind λac=>bA 5 ac X aa λad=>bif(aZ (tR j) (some [],some [(u,q+42,90)])&&(aZ (some [],some [(u,q+42,90)]) (tR b)&&(aZ (tX k,tA (u,q+43,91) e.1) (tR b)&&true)))then some ((I 0),ad)else none)))
def yf:OQ:=λc h u e f g a i k m q=>(aI c wG [a] m).bind λb=>(cN b.1 0).bind λl=>(cN b.1 1).bind λn=>dH vK (u,q+5,11) b.2 λj o=>bA 3 j l o λd=>aK n ((aE 0 j).bind λp=>(aA false 1 p d).bind λr=>IV c h u e f g a i r d (q+12)) (IV c h u e f g a i k d (q+9))
def UR:bL:=λc h u g i m q=>cX i (u,q,3) m λd f=>(cD g).bind λj=>(aE 0 j).bind λk=>(aA false 1 k f).bind λl=>(cD l).bind λn=>(aE 4 n).bind λo=>(aA false 1 o f).bind λp=>(fC c Q7 [p,(AV.clo sO [d])] f).bind λa=>(cA a.1 (I 0)).bind λr=>aK r (some ((I 6),a.2)) ((aE 1 d).bind λs=>(aA false 1 s a.2).bind λt=>(aI c yZ [t] a.2).bind λb=>(eA b.1 (I 0)).bind λv=>aK v (some (b.1,b.2)) ((aE 1 d).bind λw=>(aA false 1 w b.2).bind λx=>(aI c pR [x,(AV.sc (.string ⟨#[32]⟩))] b.2).bind λe=>(cN e.1 0).bind λy=>(cN e.1 1).bind λz=>(cN e.1 2).bind λA=>yf c h u g d a.1 y z (I 3) e.2 (q+31)))
def xmc:hY:=λc h u m q=>some ((B true),m)
def TW(c:aJ)(h:FHs)(u:Nat)(r:eF):eF:=λb d a m q=>(aE 0 b).bind λe=>(aA false 1 e m).bind λf=>(aM prog kJ f).bind λg=>(cA a g).bind λi=>aK i ((aE 0 b).bind λj=>(aA false 1 j m).bind λk=>(aV 3 k a).bind λl=>(aA true 3 l m).bind λn=>(aE 0 d).bind λo=>(aA false 1 o m).bind λp=>(aV 3 p a).bind λs=>(aA true 3 s m).bind λt=>(bP prog .neq qR (.tmp 32) (.tmp 37) n t).bind λv=>aK v (some ((B false),m)) ((bM a (I 1)).bind λw=>r b d w m (q+19))) (xmc c h u m (q+5))
def AG(c:aJ)(h:FHs)(u:Nat):Nat->eF
 |0=>λ_ _ _ _ _=>none
 |n+1=>TW c h u (AG c h u n)
def xr:bL:=λc h u a b m q=>AG c h u NN a b (I 0) m (q+1)
def TV:bL:=λc h u n o m q=>cX n (u,q,2) m λb p=>cX o (u,q+1,3) p λd e=>(aE 0 b).bind λr=>(aA false 1 r e).bind λs=>(aM prog kJ s).bind λt=>(aE 0 d).bind λv=>(aA false 1 v e).bind λw=>(aM prog kJ w).bind λx=>(eA t x).bind λa=>aL a false (aE 1 b) e λf=>aL a false (aA false 1 f.1 f.2) f.2 λk=>aL a false (aE 1 d) k.2 λg=>aL a false (aA false 1 g.1 g.2) g.2 λi=>fB a false (aI c EW [k.1,i.1] i.2) i.2 λl=>aL a false (dN l.1) l.2 λj=>(bX a (B true) j.1).bind λy=>aK y (some ((B false),j.2)) (xr c h u b d j.2 (q+18))
def xl:hY:=λc h u m q=>some ((B true),m)
def TL(c:aJ)(h:FHs)(u:Nat)(r:eF):eF:=λb d a m q=>(aM prog mW b).bind λe=>(cA a e).bind λf=>aK f ((aV 4 b a).bind λg=>(aA true 4 g m).bind λi=>(aV 4 d a).bind λj=>(aA true 4 j m).bind λk=>(bP prog .neq xZ (.tmp 20) (.tmp 24) i k).bind λl=>aK l (some ((B false),m)) ((bM a (I 1)).bind λn=>r b d n m (q+16))) (xl c h u m (q+4))
def AC(c:aJ)(h:FHs)(u:Nat):Nat->eF
 |0=>λ_ _ _ _ _=>none
 |n+1=>TL c h u (AC c h u n)
def xk:bL:=λc h u a b m q=>AC c h u NN a b (I 0) m (q+1)
def TK:bL:=λc h u a b m q=>(aM prog mW a).bind λd=>(aM prog mW b).bind λe=>(eA d e).bind λf=>aK f (some ((B false),m)) (xk c h u a b m (q+6))
def xmb:hY:=λc h u m q=>some ((I (-1)),m)
def xma(c:aJ)(h:FHs)(u:Nat)(r:cB):cB:=λd e f a m q=>(cA a f).bind λg=>aK g ((aV 3 d a).bind λi=>(aA true 3 i m).bind λj=>(fD c h 2 e [j] m).bind λb=>aK b.1 (some (a,b.2)) ((bM a (I 1)).bind λk=>r d e f k b.2 (q+11))) (xmb c h u m (q+1))
def OM(c:aJ)(h:FHs)(u:Nat):Nat->cB
 |0=>λ_ _ _ _ _ _=>none
 |n+1=>xma c h u (OM c h u n)
def xc:bL:=λc h u a b m q=>(aM prog lK a).bind λd=>OM c h u NN a b d (I 0) m (q+3)
def SF:bL:=λc h u a b m q=>xc c h u a b m (q+1)
def VW:bL:=λc h u b d m q=>cX b (u,q,2) m λe a=>(aE 0 e).bind λf=>(aA false 1 f a).bind λg=>(aA false 1 d a).bind λi=>(bP prog .eql bN (.tmp 5) (.tmp 6) g i).bind λj=>some (j,a)
def VR:bL:=λc h u n o m q=>cX n (u,q,2) m λp r=>dH xW (u,q+1,4) r λa f=>(aA true 5 p f).bind λs=>(aI c FG [s,o] f).bind λd=>(cN d.1 0).bind λt=>(cN d.1 1).bind λg=>dH BO (u,q+8,5) d.2 λi v=>bA 4 i t v λe=>(cA g (I 0)).bind λw=>aK w ((dA xW [(0,1,(I 0))]).bind λx=>bA 3 a x e λj=>(kY true 3 a j).bind λr0=>some (r0,j)) ((aA true 4 i e).bind λy=>(aI c DX [y,g] e).bind λb=>(cN b.1 0).bind λz=>(cN b.1 1).bind λA=>(cN b.1 2).bind λB=>(eA B (I 0)).bind λC=>aK C ((dA xW [(0,1,(I 1)),(2,1,A)]).bind λD=>bA 3 a D b.2 λk=>(kY true 3 a k).bind λr0=>some (r0,k)) ((dA xW [(0,1,(I 2)),(1,1,z)]).bind λE=>bA 3 a E b.2 λl=>(kY true 3 a l).bind λr0=>some (r0,l)))
def TH:bL:=λc h u w j m q=>cX w (u,q,2) m λx k=>(aA true 5 x k).bind λy=>(aI c ER [y] k).bind λa=>(cN a.1 0).bind λl=>(cN a.1 1).bind λn=>(cN a.1 2).bind λo=>(eA o (I 0)).bind λz=>aK z (some (AV.tup [(I 0),o],a.2)) ((aI c wC [j,(I 0),(I 1000000000)] a.2).bind λf=>(dN f.1).bind λA=>aK A (some (AV.tup [(I 0),(I 2)],f.2)) ((nA (I 8192) j).bind λd=>(eP l d).bind λb=>bI b false n f.2 λp=>bI b false d p.2 λr=>aL b false (rB r.1) r.2 λs=>aL b false (cA p.1 s.1) s.2 λg=>(bX b (B true) g.1).bind λC=>aK C (some (AV.tup [(I 2),(I 0)],g.2)) ((rB d).bind λD=>(jU l D).bind λe=>bI e true n g.2 λt=>bI e true d t.2 λv=>aL e true (jI t.1 v.1) v.2 λi=>(bX e i.1 (B false)).bind λE=>aK E (some (AV.tup [(I 0),(I 0)],i.2)) (some (AV.tup [(I 1),(I 0)],i.2)))))
def VQ:gG:=λc h u f g i m q=>cX f (u,q,3) m λb j=>cX g (u,q+1,4) j λk l=>dH YO (u,q+2,6) l λd a=>(aE 0 b).bind λn=>(aA false 1 n a).bind λo=>(cD o).bind λp=>(aE 1 p).bind λr=>(aA false 1 r a).bind λs=>(aE 1 k).bind λt=>(aA false 1 t a).bind λv=>(aV 1 v i).bind λw=>(aA false 1 w a).bind λx=>(aE 0 b).bind λy=>(aA false 1 y a).bind λz=>(cD z).bind λA=>(aE 1 A).bind λB=>(aA false 1 B a).bind λC=>(aE 0 b).bind λD=>(aA false 1 D a).bind λE=>(cD E).bind λF=>(aE 0 F).bind λG=>(aA false 1 G a).bind λH=>(dA YO [(1,1,s),(2,1,x),(3,1,C),(4,1,H)]).bind λI=>bA 5 d I a λe=>(kY true 5 d e).bind λr0=>some (r0,e)
def TZ:hY:=λc h u m q=>some ((I 0),m)
def IT(c:aJ)(h:FHs)(u:Nat)(r:kC):kC:=λb a m q=>(eP a (I 0)).bind λd=>aK d ((aE 1 b).bind λe=>(aA false 1 e m).bind λf=>(aV 1 f a).bind λg=>(aA false 1 g m).bind λi=>(eA i (I 1000000000000)).bind λj=>aK j (some (a,m)) ((eV a (I 1)).bind λk=>r b k m (q+11))) (TZ c h u m (q+2))
def J1(c:aJ)(h:FHs)(u:Nat):Nat->kC
 |0=>λ_ _ _ _=>none
 |n+1=>IT c h u (J1 c h u n)
def xt:cG:=λc h u a m q=>(aE 1 a).bind λb=>(aA false 1 b m).bind λd=>(aM prog fE d).bind λe=>(eV e (I 1)).bind λf=>J1 c h u NN a f m (q+5)
def TY:cG:=λc h u a m q=>cX a (u,q,1) m λb d=>xt c h u b d (q+2)
def TX:gG:=λc h u b g i m q=>(jI g b).bind λa=>bI a true b m λd=>bI a true i d.2 λe=>aL a true (jI d.1 e.1) e.2 λf=>(bX a f.1 (B false)).bind λj=>some (j,f.2)
def yj:hY:=λc h u m q=>some ((I 0),m)
def VD(c:aJ)(h:FHs)(u:Nat)(r:eF):eF:=λb d a m q=>(cA a d).bind λf=>aK f ((aV 1 b a).bind λg=>(aA false 1 g m).bind λe=>(eA e (I 0)).bind λi=>aK i (some (e,m)) ((bM a (I 1)).bind λj=>r b d j m (q+8))) (yj c h u m (q+1))
def AM(c:aJ)(h:FHs)(u:Nat):Nat->eF
 |0=>λ_ _ _ _ _=>none
 |n+1=>VD c h u (AM c h u n)
def yi:cG:=λc h u a m q=>(aM prog BP a).bind λb=>AM c h u NN a b (I 0) m (q+3)
def VC:cG:=λc h u a m q=>yi c h u a m (q+1)
def ya:hY:=λc h u m q=>some ((I 0),m)
def UK(c:aJ)(h:FHs)(u:Nat)(r:cB):cB:=λd e f a m q=>(cA a f).bind λg=>aK g ((fD c h 2 e [a] m).bind λb=>(bP prog .eql bN (.tmp 17) (.tmp 18) b.1 d).bind λi=>aK i (some ((I 5),b.2)) ((bM a (I 1)).bind λj=>r d e f j b.2 (q+10))) (ya c h u m (q+1))
def AK(c:aJ)(h:FHs)(u:Nat):Nat->cB
 |0=>λ_ _ _ _ _ _=>none
 |n+1=>UK c h u (AK c h u n)
def xz:gG:=λc h u a b d m q=>AK c h u NN a b d (I 0) m (q+2)
def UJ:gG:=λc h u b d e m q=>(aI c wE [b] m).bind λa=>(dN a.1).bind λf=>aK f (some ((I 4),a.2)) (xz c h u b d e a.2 (q+4))
def WR:bL:=λc h u a b m q=>(aE 2 b).bind λd=>(aA false 1 d m).bind λe=>(aV 3 e a).bind λf=>(aE 0 f).bind λg=>(aA false 1 g m).bind λi=>some (i,m)
def xah:hY:=λc h u m q=>some ((I 0),m)
def xag(c:aJ)(h:FHs)(u:Nat)(r:cB):cB:=λa b d e m q=>(bM e (I 1)).bind λf=>r a b d f m (q+2)
def xae(c:aJ)(h:FHs)(u:Nat)(r:cB)(s:pF):pF:=λa b d e f g i j k m q=>(bM k (I 1)).bind λl=>s a b d e f g i j l m (q+2)
def BI(c:aJ)(h:FHs)(u:Nat)(r:cB)(s:pF):yfg:=λa b d e f g i j k l m q=>aK e (some ((I 13),m)) (xae c h u r s a b d f g i j k l m (q+1))
def xad(c:aJ)(h:FHs)(u:Nat)(r:cB)(s:pF):yff:=λj g a z i k l n o p t m q=>(bM z (I 1)).bind λL=>(eK g L).bind λM=>aK M ((aA true 4 a m).bind λN=>(aE 0 i).bind λO=>(aA true 2 O m).bind λP=>(aI c pV [N,P] m).bind λb=>aL b.1 false (aA true 4 i b.2) b.2 λA=>aL b.1 false (aE 2 a) A.2 λv=>aL b.1 false (aA true 2 v.1 v.2) v.2 λw=>fB b.1 false (aI c pV [A.1,w.1] w.2) w.2 λC=>(bX b.1 (B true) C.1).bind λQ=>BI c h u r s j g a Q k l n o p t C.2 (q+16)) ((eK z (I 0)).bind λf=>bI f true g m λD=>bI f true j D.2 λE=>aL f true (aM prog w6 E.1) E.2 λF=>aL f true (eV F.1 (I 1)) F.2 λG=>aL f true (eK D.1 G.1) G.2 λd=>(bX f d.1 (B false)).bind λR=>aK R ((aA true 4 a d.2).bind λS=>(aE 2 i).bind λT=>(aA true 2 T d.2).bind λU=>(aI c pV [S,U] d.2).bind λe=>aL e.1 false (aA true 4 i e.2) e.2 λH=>aL e.1 false (aE 0 a) H.2 λx=>aL e.1 false (aA true 2 x.1 x.2) x.2 λy=>fB e.1 false (aI c pV [H.1,y.1] y.2) y.2 λJ=>(bX e.1 (B true) J.1).bind λV=>BI c h u r s j g a V k l n o p t J.2 (q+26)) ((aA true 4 a d.2).bind λW=>(aA true 4 i d.2).bind λX=>(aI c FX [W,X] d.2).bind λK=>BI c h u r s j g a K.1 k l n o p t K.2 (q+19)))
def xac(c:aJ)(h:FHs)(u:Nat)(r:cB)(s:pF):pF:=λe f g i j k b l a m q=>(aV 4 b a).bind λn=>(aA true 4 n m).bind λo=>dH rX (u,q+3,11) m λd p=>bA 4 d o p λt=>xad c h u r s e f g a d i j k b l a t (q+7)
def XU(c:aJ)(h:FHs)(u:Nat)(r:cB)(s:pF):pF:=λa i j b d e k f g m q=>(cA g f).bind λl=>aK l (xac c h u r s a i j b d e k f g m (q+1)) (xag c h u r a b d e m (q+1))
def J6(c:aJ)(h:FHs)(u:Nat)(r:cB):Nat->pF
 |0=>λ_ _ _ _ _ _ _ _ _ _ _=>none
 |n+1=>XU c h u r (J6 c h u r n)
def xab(c:aJ)(h:FHs)(u:Nat)(r:cB):cB:=λb d g a m q=>(aV 4 d a).bind λi=>(aA true 4 i m).bind λj=>dH rX (u,q+3,9) m λe k=>bA 4 e j k λl=>(dZ prog w6 b none (some a)).bind λf=>(aM prog w6 f).bind λn=>J6 c h u r NN b a e d g a f n (I 0) l (q+11)
def XT(c:aJ)(h:FHs)(u:Nat)(r:cB):cB:=λd e a b m q=>(cA b a).bind λf=>aK f (xab c h u r d e a b m (q+1)) (xah c h u m (q+1))
def J7(c:aJ)(h:FHs)(u:Nat):Nat->cB
 |0=>λ_ _ _ _ _ _=>none
 |n+1=>XT c h u (J7 c h u n)
def xaa:cG:=λc h u a m q=>(aM prog w6 a).bind λb=>J7 c h u NN a a b (I 0) m (q+3)
def XX:cG:=λc h u b m q=>(aI c F0 [b,(I 1)] m).bind λa=>xaa c h u a.1 a.2 (q+3)
def XW(c:aJ)(h:FHs)(u:Nat)(w:dM):dM:=λg e i j f m q=>(cA f j).bind λn=>aK n ((aV 3 i f).bind λo=>(aA true 3 o m).bind λp=>dH vL (u,q+3,5) m λd r=>bA 3 d p r λk=>(aA true 3 d k).bind λs=>(aI c U0 [s] k).bind λa=>(eA a.1 (I 0)).bind λt=>aK t (some (a.1,a.2)) ((aA true 3 d a.2).bind λv=>(aI c MB [v] a.2).bind λb=>(yL prog BQ e b.1 false b.2).bind λx=>aK x (some ((I 28),b.2)) ((aA true 3 d b.2).bind λy=>(aI c MB [y] b.2).bind λl=>uG prog BQ e l.1 (B true) l.2 λz=>(bM f (I 1)).bind λA=>w g e i j A z (q+20)))) (XX c h u g m (q+1))
def AZ(c:aJ)(h:FHs)(u:Nat):Nat->dM
 |0=>λ_ _ _ _ _ _ _=>none
 |n+1=>XW c h u (AZ c h u n)
def xaf:bL:=λc h u a b m q=>(aM prog pI a).bind λd=>AZ c h u NN a b a d (I 0) m (q+3)
def XV:cG:=λc h u a m q=>(aM prog pI a).bind λb=>(cA b (I 3)).bind λd=>aK d (some ((I 10),m)) ((aM prog pI a).bind λe=>(eP e (I 20)).bind λf=>aK f (some ((I 8),m)) (CP (u,q+9,21) m λg i=>xaf c h u a g i (q+11)))
def xw:cG:=λc h u a m q=>(dN a).bind λb=>aK b (some ((I 2),m)) (some ((I 0),m))
def IS:bL:=λc h u d a m q=>(rB a).bind λe=>(aI c rI [d,e,a] m).bind λb=>some (b.1,b.2)
def WQ:bL:=λc h u a b m q=>(aE 3 b).bind λd=>(aA false 1 d m).bind λe=>(aV 4 e a).bind λf=>(aE 0 f).bind λg=>(aA false 1 g m).bind λi=>some (i,m)
def WO:bL:=λc h u a b m q=>(aE 4 b).bind λd=>(aA false 1 d m).bind λe=>(aV 2 e a).bind λf=>(aE 0 f).bind λg=>(aA false 1 g m).bind λi=>some (i,m)
def VT(c:aJ)(h:FHs)(u:Nat)(r:eB):eB:=λi j k l n d m q=>(cA d n).bind λt=>aK t ((aV 4 l d).bind λv=>(aA true 4 v m).bind λw=>dH L1 (u,q+4,5) m λo x=>bA 4 o w x λa=>(aE 0 j).bind λy=>(aA false 1 y a).bind λz=>(cD z).bind λA=>(aE 2 A).bind λC=>(aA false 1 C a).bind λD=>(aA false 1 k a).bind λE=>(aV 3 D E).bind λF=>(aE 1 F).bind λG=>(aA false 1 G a).bind λH=>(aE 1 o).bind λJ=>(aA true 3 J a).bind λK=>(aI c GC [H,K] a).bind λe=>(cN e.1 0).bind λb=>(cN e.1 1).bind λN=>bI b true i e.2 λp=>bI b true d p.2 λf=>fB b true (fD c h 2 p.1 [f.1] f.2) f.2 λs=>aL b true (dN s.1) s.2 λg=>(bX b g.1 (B false)).bind λL=>aK L (some (AV.tup [],g.2)) ((bM d (I 1)).bind λM=>r i j k l n M g.2 (q+33))) ((some (AV.tup [],m)))
def AN(c:aJ)(h:FHs)(u:Nat):Nat->eB
 |0=>λ_ _ _ _ _ _ _ _=>none
 |n+1=>VT c h u (AN c h u n)
def VS:gG:=λc h u d a e m q=>(aE 0 a).bind λf=>(aA false 1 f m).bind λg=>(cD g).bind λi=>(aE 3 i).bind λj=>(aA false 1 j m).bind λb=>(aM prog rY b).bind λk=>AN c h u NN d a e b k (I 0) m (q+7)
def XS:bL:=λc h u b l m q=>cX l (u,q,3) m λd g=>(aI c U1 [b] g).bind λe=>(aA true 3 d e.2).bind λn=>(aI c U0 [n] e.2).bind λi=>cV qP [(0,1,e.1),(1,1,i.1)] 2 1 (u,q+7,11) i.2 λo p=>(aI c FZ [o] p).bind λa=>bif(dJ (some g.next) (tR d) (cY 0 [b])&&true)then (eA a.1 (I 0)).bind λr=>aK r (some (AV.tup [(B false),a.1],a.2)) ((aI c F0 [b,(I 1)] a.2).bind λf=>(aA true 3 d f.2).bind λs=>(aI c MB [s] f.2).bind λj=>(aI c FY [f.1,j.1] j.2).bind λk=>bif(dJ (some a.2.next) (tR d) (cY 0 [b,(I 1)])&&true)then some (AV.tup [k.1,(I 0)],k.2)else none)else none
def VP:bL:=λc h u d e m q=>cX d (u,q,2) m λf g=>cX e (u,q+1,3) g λi a=>(aE 0 f).bind λj=>(aA false 1 j a).bind λk=>(cD k).bind λl=>(aE 3 l).bind λn=>(aA false 1 n a).bind λo=>(fC c EF [o,(AV.clo D6 [i])] a).bind λb=>some (b.1,b.2)
def PR:bL:=λc h u b d m q=>(aI c C3 [b,d] m).bind λa=>(jU a.1 (I 0)).bind λe=>some (e,a.2)
def IE(c:aJ)(h:FHs)(u:Nat)(r:kC):eF:=λb d e m q=>(fD c h 2 b [e] m).bind λa=>(dN a.1).bind λf=>aK f (some (AV.tup [],a.2)) (r b d a.2 (q+4))
def uf(c:aJ)(h:FHs)(u:Nat)(r:kC):kC:=λd a m q=>(aA false 1 a m).bind λe=>(aI c DN [e,(AV.sc (.int .u8 10))] m).bind λb=>(jU b.1 (I 0)).bind λf=>aK f ((aA false 1 a b.2).bind λg=>(bM b.1 (I 1)).bind λi=>(dZ prog bN g none (some i)).bind λj=>(aA false 1 a b.2).bind λk=>(bM b.1 (I 1)).bind λl=>(dZ prog bN k (some l) none).bind λn=>bA 1 a n b.2 λo=>IE c h u r d a j o (q+15)) ((aA false 1 a b.2).bind λp=>bA 1 a (AV.sc (.string ⟨#[]⟩)) b.2 λs=>IE c h u r d a p s (q+8))
def ue(c:aJ)(h:FHs)(u:Nat)(r:kC):kC:=λa b m q=>uf c h u r a b m (q+1)
def ud(c:aJ)(h:FHs)(u:Nat)(r:kC):kC:=λb a m q=>(aA false 1 a m).bind λd=>(eD d).bind λe=>(eP e (I 0)).bind λf=>aK f (ue c h u r b a m (q+3)) ((some (AV.tup [],m)))
def Y7(c:aJ)(h:FHs)(u:Nat):Nat->kC
 |0=>λ_ _ _ _=>none
 |n+1=>ud c h u (Y7 c h u n)
def PM:bL:=λc h u b d m q=>(aI c E7 [b,d] m).bind λa=>some (a.1,a.2)
def XF:bL:=λc h u a d m q=>(aI c FT [a,d] m).bind λb=>(dN b.1).bind λe=>aK e (some (AV.tup [a,(B false)],b.2)) ((eD a).bind λf=>(eD d).bind λg=>(eV f g).bind λi=>(dZ prog bN a none (some i)).bind λj=>some (AV.tup [j,(B true)],b.2))
def XE:bL:=λc h u b d m q=>(aI c E8 [b,d] m).bind λa=>(jU a.1 (I 0)).bind λe=>aK e ((dZ prog bN b none (some a.1)).bind λf=>(eD d).bind λg=>(bM a.1 g).bind λi=>(dZ prog bN b (some i) none).bind λj=>some (AV.tup [f,j,(B true)],a.2)) (some (AV.tup [b,(AV.sc (.string ⟨#[]⟩)),(B false)],a.2))
def xl5:hY:=λc h u m q=>some ((I (-1)),m)
def xl4(c:aJ)(h:FHs)(u:Nat)(r:cB):cB:=λd e f a m q=>(cA a f).bind λg=>aK g ((aV 2 d a).bind λi=>(aA true 2 i m).bind λj=>(fD c h 2 e [j] m).bind λb=>aK b.1 (some (a,b.2)) ((bM a (I 1)).bind λk=>r d e f k b.2 (q+11))) (xl5 c h u m (q+1))
def OJ(c:aJ)(h:FHs)(u:Nat):Nat->cB
 |0=>λ_ _ _ _ _ _=>none
 |n+1=>xl4 c h u (OJ c h u n)
def wz:bL:=λc h u a b m q=>(aM prog rZ a).bind λd=>OJ c h u NN a b d (I 0) m (q+3)
def SB:bL:=λc h u a b m q=>wz c h u a b m (q+1)
def US:bL:=λc h u b d m q=>cX b (u,q,2) m λe a=>(aE 0 e).bind λf=>(aA false 1 f a).bind λg=>(aE 0 d).bind λi=>(aA false 1 i a).bind λj=>(bP prog .eql bN (.tmp 5) (.tmp 7) g j).bind λk=>some (k,a)
def VJ:cG:=λc h u d m q=>(aI c pR [d,(AV.sc (.string ⟨#[32]⟩))] m).bind λa=>(cN a.1 0).bind λj=>(cN a.1 1).bind λz=>(cN a.1 2).bind λo=>(aI c wG [j] a.2).bind λe=>(cN e.1 0).bind λp=>(cN e.1 1).bind λr=>dH vK (u,q+15,6) e.2 λs t=>bA 3 s p t λk=>(eD d).bind λv=>(eP v (I 200)).bind λw=>aK w (some ((I 8),k)) ((aI c C4 [d,(AV.sc (.string ⟨#[10]⟩))] k).bind λb=>bI b.1 false o b.2 λl=>aL b.1 false (dN l.1) l.2 λf=>(bX b.1 (B true) f.1).bind λx=>aK x (some ((I 7),f.2)) ((dN r).bind λg=>bI g true j f.2 λn=>aL g true (bP prog .neq bN (.tmp 34) (.const (.string ⟨#[102,105,120]⟩)) n.1 (AV.sc (.string ⟨#[102,105,120]⟩))) n.2 λi=>(bX g i.1 (B false)).bind λy=>aK y (some ((I 15),i.2)) (some ((I 0),i.2))))
def BE:gG:=λc h u b d a m q=>cV pG [(0,1,(AV.sc (.string ⟨#[]⟩)))] 1 1 (u,q+3,106) m λe f=>cK 1 16 (u,q+4,107) (elems f.get 1 e) d f λi g=>(aA true 5 a g).bind λj=>(cD b).bind λk=>(aE 1 k).bind λl=>bA 1 l i g λn=>(cD b).bind λo=>(aE 2 o).bind λp=>bA 5 p j n λr=>bif(aZ (some [],some [(u,q+3,106)]) (tR a)&&(aZ (tX e,tA (u,q+4,107) d) (tR a)&&true))then some ((I 0),r)else none
def UV(c:aJ)(h:FHs)(u:Nat)(r:gH):gH:=λa b d e f g i m q=>(bM i (I 1)).bind λj=>r a b d e f g j m (q+2)
def yh(c:aJ)(h:FHs)(u:Nat)(r:gH):gH:=λj e k f g l a m q=>(aV 1 g a).bind λt=>(aA false 1 t m).bind λn=>(bP prog .eql bN (.tmp 87) (.const (.string ⟨#[]⟩)) n (AV.sc (.string ⟨#[]⟩))).bind λb=>bI b true a m λo=>bI b true e o.2 λp=>aL b true (eV p.1 (I 1)) p.2 λs=>aL b true (eA o.1 s.1) s.2 λi=>(bX b i.1 (B false)).bind λv=>aK v (UV c h u r j e k f g l a i.2 (q+13)) ((bM a (I 1)).bind λw=>(c h wI [f,n,w] i.2).bind λd=>(eA d.1 (I 0)).bind λx=>aK x (some (d.1,d.2)) (UV c h u r j e k f g l a d.2 (q+20)))
def UU(c:aJ)(h:FHs)(u:Nat)(r:gH):gH:=λa g b d i e f m q=>(cA f e).bind λj=>aK j (yh c h u r a g b d i e f m (q+1)) (BE c h u a b d m (q+1))
def o7(c:aJ)(h:FHs)(u:Nat):Nat->gH
 |0=>λ_ _ _ _ _ _ _ _ _=>none
 |n+1=>UU c h u (o7 c h u n)
def yg:qL:=λc h u b d a e m q=>(aM prog iQ a).bind λf=>o7 c h u NN b d a e a f (I 0) m (q+3)
def UT:bL:=λc h u a A m q=>(aI c pR [A,(AV.sc (.string ⟨#[32]⟩))] m).bind λd=>(cN d.1 0).bind λC=>(cN d.1 1).bind λe=>(cN d.1 2).bind λD=>(aI c yY [C] d.2).bind λj=>(cN j.1 0).bind λf=>(cN j.1 1).bind λE=>(dN D).bind λk=>bI k false E j.2 λs=>aL k false (dN s.1) s.2 λt=>(bX k (B true) t.1).bind λl=>bI l false e t.2 λv=>aL l false (bP prog .eql bN (.tmp 34) (.const (.string ⟨#[]⟩)) v.1 (AV.sc (.string ⟨#[]⟩))) v.2 λg=>(bX l (B true) g.1).bind λF=>aK F (some ((I 7),g.2)) ((cD a).bind λG=>(aE 1 G).bind λH=>(aA false 1 H g.2).bind λJ=>(aM prog iQ J).bind λK=>(aI c rI [f,(I 1),K] g.2).bind λb=>(dN b.1).bind λL=>aK L (some ((I 6),b.2)) ((cD a).bind λM=>(aE 1 M).bind λN=>(aA false 1 N b.2).bind λO=>(eV f (I 1)).bind λP=>(aV 1 O P).bind λQ=>(aA false 1 Q b.2).bind λR=>(bP prog .eql bN (.tmp 54) (.const (.string ⟨#[]⟩)) R (AV.sc (.string ⟨#[]⟩))).bind λn=>bI n false e b.2 λo=>fB n false (aI c O9 [o.1,(AV.sc (.string ⟨#[102,105,120,32]⟩))] o.2) o.2 λw=>(bX n (B true) w.1).bind λp=>bI p false e w.2 λx=>aL p false (bP prog .eql bN (.tmp 61) (.const (.string ⟨#[102,105,120]⟩)) x.1 (AV.sc (.string ⟨#[102,105,120]⟩))) x.2 λi=>(bX p (B true) i.1).bind λS=>aK S (some ((I 15),i.2)) ((cD a).bind λT=>(aE 1 T).bind λU=>(aA false 1 U i.2).bind λV=>(uI c R6 [V] i.2).bind λr=>(eV f (I 1)).bind λW=>(aV 1 r.1 W).bind λX=>bA 1 X e r.2 λy=>(cD a).bind λY=>(aE 0 Y).bind λZ=>(aA false 1 Z y).bind λaa=>(dA oQ []).bind λab=>(dA tO [(0,1,aa),(1,4,ab)]).bind λac=>dH tO (u,q+73,11) y λz ad=>bA 5 z ac ad λae=>yg c h u a f r.1 z ae (q+75))))
def VV:gG:=λc h u p l r m q=>(aI c yZ [l] m).bind λb=>(eA b.1 (I 0)).bind λs=>aK s (some (b.1,b.2)) ((aI c pR [l,(AV.sc (.string ⟨#[32]⟩))] b.2).bind λd=>(cN d.1 0).bind λt=>(cN d.1 1).bind λv=>(cN d.1 2).bind λL=>(aI c wG [t] d.2).bind λg=>(cN g.1 0).bind λw=>(cN g.1 1).bind λx=>dH vK (u,q+20,11) g.2 λi y=>bA 3 i w y λn=>(dN x).bind λz=>aK z (some ((I 15),n)) ((aI c O7 [v,(AV.sc (.string ⟨#[32]⟩))] n).bind λa=>(aM prog iQ a.1).bind λA=>(aE 1 i).bind λC=>(aA false 1 C a.2).bind λD=>(eA A D).bind λj=>bI j false a.1 a.2 λk=>fB j false (aI c R3 [k.1,(AV.sc (.string ⟨#[]⟩))] k.2) k.2 λe=>(bX j (B true) e.1).bind λE=>aK E (some ((I 7),e.2)) ((aE 2 i).bind λF=>(aA false 1 F e.2).bind λG=>(fD c h 2 G [a.1] e.2).bind λf=>(cN f.1 0).bind λH=>(cN f.1 1).bind λJ=>(dN J).bind λK=>aK K (some ((I 7),f.2)) ((V6 prog c h 2 H "swath/office.do" [p,r] f.2).bind λo=>some (o.1,o.2)))))
def SZ:cG:=λc h u a m q=>(aM prog iQ a).bind λb=>(aM prog iQ a).bind λd=>(nV prog iQ a none b d).bind λe=>some (e,m)
def xq:hY:=λc h u m q=>some ((B true),m)
def TT(c:aJ)(h:FHs)(u:Nat)(r:eF):eF:=λb d a m q=>(aM prog tQ b).bind λe=>(cA a e).bind λf=>aK f ((aV 2 b a).bind λg=>(aA true 2 g m).bind λi=>(aV 2 d a).bind λj=>(aA true 2 j m).bind λk=>(bP prog .neq kK (.tmp 20) (.tmp 24) i k).bind λl=>aK l (some ((B false),m)) ((bM a (I 1)).bind λn=>r b d n m (q+16))) (xq c h u m (q+4))
def AF(c:aJ)(h:FHs)(u:Nat):Nat->eF
 |0=>λ_ _ _ _ _=>none
 |n+1=>TT c h u (AF c h u n)
def xp:bL:=λc h u a b m q=>AF c h u NN a b (I 0) m (q+1)
def TS:bL:=λc h u a b m q=>(aM prog tQ a).bind λd=>(aM prog tQ b).bind λe=>(eA d e).bind λf=>aK f (some ((B false),m)) (xp c h u a b m (q+6))
def yq:gG:=λc h u a d e m q=>(aA true 4 d m).bind λf=>bA 4 a f m λb=>(kY true 4 a b).bind λr0=>some (AV.tup [r0,e],b)
def BG(c:aJ)(h:FHs)(u:Nat)(r:gH):gH:=λa b d e f g i m q=>(bM i (I 1)).bind λj=>r a b d e f g j m (q+2)
def yp(c:aJ)(h:FHs)(u:Nat)(r:gH):gH:=λf n a g i o j m q=>(aV 4 i j).bind λF=>(aA true 4 F m).bind λG=>dH tP (u,q+2,9) m λb H=>bA 4 b G H λd=>(aE 0 b).bind λJ=>(aA false 1 J d).bind λK=>(eA K f).bind λL=>aK L (BG c h u r f n a g i o j d (q+8)) ((aE 0 a).bind λM=>(aE 1 M).bind λN=>(aA false 1 N d).bind λO=>(aE 1 b).bind λP=>(aA false 1 P d).bind λQ=>(aE 2 b).bind λR=>(aA false 1 R d).bind λS=>(dA xX [(0,1,Q),(1,1,S)]).bind λT=>cV xX [(0,2,T)] 1 2 (u,q+16,35) d λU x=>cK 2 16 (u,q+17,36) (elems x.get 2 U) O x λV W=>(aE 0 a).bind λX=>(aE 1 X).bind λY=>bA 1 Y V W λp=>(aE 2 a).bind λs=>(aA false 1 s p).bind λt=>(aE 3 b).bind λy=>(aA false 1 y p).bind λZ=>cV gI [(0,1,Z)] 1 1 (u,q+25,43) p λv z=>cK 1 8 (u,q+26,44) (elems z.get 1 v) t z λaa A=>(aE 3 a).bind λk=>(aA false 1 k A).bind λab=>cV gI [(0,1,(I 1))] 1 1 (u,q+29,47) A λac C=>cK 1 8 (u,q+30,48) (elems C.get 1 ac) ab C λad ae=>(aE 2 a).bind λaf=>bA 1 af aa ae λag=>(aE 3 a).bind λah=>bA 1 ah ad ag λai=>bif(aZ (tR s) (some [],some [(u,q+25,43)])&&(aZ (some [],some [(u,q+25,43)]) (tR k)&&(aZ (tX v,tA (u,q+26,44) t) (tR k)&&(aZ (tR s) (some [],some [(u,q+29,47)])&&(aZ (tR y) (some [],some [(u,q+29,47)])&&(aZ (some [],some [(u,q+25,43)]) (some [],some [(u,q+29,47)])&&(aZ (tX v,tA (u,q+26,44) t) (some [],some [(u,q+29,47)])&&(aZ (tR k) (some [],some [(u,q+29,47)])&&true))))))))then (cA g (I 0)).bind λe=>aL e false (aE 1 b) ai λw=>aL e false (aA false 1 w.1 w.2) w.2 λD=>bI e false g D.2 λE=>aL e false (cA D.1 E.1) E.2 λl=>(bX e (B true) l.1).bind λaj=>aK aj ((aE 1 b).bind λak=>(aA false 1 ak l.2).bind λal=>BG c h u r f n a al i o j l.2 (q+46)) (BG c h u r f n a g i o j l.2 (q+43))else none)
def VL(c:aJ)(h:FHs)(u:Nat)(r:gH):gH:=λg a b d i e f m q=>(cA f e).bind λj=>aK j (yp c h u r g a b d i e f m (q+1)) (yq c h u a b d m (q+1))
def J3(c:aJ)(h:FHs)(u:Nat):Nat->gH
 |0=>λ_ _ _ _ _ _ _ _ _=>none
 |n+1=>VL c h u (J3 c h u n)
def yn:xln:=λc h u b d e f g m q=>(aE 1 d).bind λi=>(aE 1 i).bind λj=>(aA false 1 j m).bind λa=>(aM prog mW a).bind λk=>J3 c h u NN b e f g a k (I 0) m (q+5)
def VK:bL:=λc h u e f m q=>cX e (u,q,2) m λa g=>dH BO (u,q+1,4) g λi b=>(aE 1 a).bind λj=>(aE 0 j).bind λk=>(aA false 1 k b).bind λl=>(dA L0 [(0,1,l)]).bind λn=>(dA BO [(0,2,n)]).bind λo=>dH BO (u,q+8,6) b λd p=>bA 4 d o p λr=>yn c h u f a i d (I (-1)) r (q+11)
def vu:cG:=λc h u a m q=>some (AV.tup [a,nilS,(I 0)],m)
def IJ(c:aJ)(h:FHs)(u:Nat)(r:gH):gH:=λa b d e f g i m q=>(bM i (I 1)).bind λj=>r a b d e f g j m (q+2)
def vt(c:aJ)(h:FHs)(u:Nat)(r:gH):gH:=λa e b g f i d m q=>(aV 1 f d).bind λl=>(aA false 1 l m).bind λn=>(aV 1 b d).bind λo=>(aA false 1 o m).bind λp=>(aV 1 b a).bind λs=>(aA false 1 s m).bind λt=>(eK p t).bind λv=>aK v ((aV 1 e a).bind λw=>(aA false 1 w m).bind λx=>(eV n x).bind λy=>cV gI [(0,1,y)] 1 1 (u,q+21,83) m λz j=>cK 1 8 (u,q+22,84) (elems j.get 1 z) g j λA B=>IJ c h u r a e b A f i d B (q+24)) (cV gI [(0,1,(I 1000000000000))] 1 1 (u,q+15,86) m λC k=>cK 1 8 (u,q+16,87) (elems k.get 1 C) g k λD E=>IJ c h u r a e b D f i d E (q+18))
def RB(c:aJ)(h:FHs)(u:Nat)(r:gH):gH:=λe f g a i b d m q=>(cA d b).bind λj=>aK j (vt c h u r e f g a i b d m (q+1)) (vu c h u a m (q+1))
def Z6(c:aJ)(h:FHs)(u:Nat):Nat->gH
 |0=>λ_ _ _ _ _ _ _ _ _=>none
 |n+1=>RB c h u (Z6 c h u n)
def vr:qL:=λc h u b a d e m q=>(aM prog fE a).bind λf=>Z6 c h u NN b a d e a f (I 0) m (q+3)
def vq:qL:=λc h u i j a d m q=>(aM prog fE d).bind λk=>(eP k (I 0)).bind λl=>aK l (some (AV.tup [nilS,d,(I 26)],m)) ((aA true 2 a m).bind λe=>(aE 2 j).bind λn=>(aA false 1 n m).bind λf=>(aI c C7 [e,f] m).bind λb=>(aA true 2 a b.2).bind λo=>(aI c P9 [o,(I (-1))] b.2).bind λg=>bif(dJ (some m.next) (tR a) (cY 0 [e,f])&&true)then vr c h u i b.1 g.1 nilS g.2 (q+12)else none)
def II(c:aJ)(h:FHs)(u:Nat)(s:gH):gH:=λa b d e f g i m q=>(bM i (I 1)).bind λj=>s a b d e f g j m (q+2)
def vp(c:aJ)(h:FHs)(u:Nat)(s:gH):gH:=λd e f g b i a m q=>(aV 1 b a).bind λk=>(aA false 1 k m).bind λl=>(eA l (I 0)).bind λn=>aK n (cV gI [(0,1,a)] 1 1 (u,q+9,47) m λo j=>cK 1 8 (u,q+10,48) (elems j.get 1 o) g j λp r=>II c h u s d e f p b i a r (q+12)) (II c h u s d e f g b i a m (q+7))
def RA(c:aJ)(h:FHs)(u:Nat)(s:gH):gH:=λa b d e i f g m q=>(cA g f).bind λj=>aK j (vp c h u s a b d e i f g m (q+1)) (vq c h u a b d e m (q+1))
def Z5(c:aJ)(h:FHs)(u:Nat):Nat->gH
 |0=>λ_ _ _ _ _ _ _ _ _=>none
 |n+1=>RA c h u (Z5 c h u n)
def vo:qL:=λc h u e b d f m q=>(aA true 2 d m).bind λg=>(aE 2 b).bind λi=>(aA false 1 i m).bind λj=>(aI c P5 [g,j] m).bind λa=>(aM prog fE a.1).bind λk=>Z5 c h u NN e b d f a.1 k (I 0) a.2 (q+6)
def RC:bL:=λc h u j f m q=>cX j (u,q,2) m λb g=>(aA true 4 b g).bind λk=>(aI c DY [k] g).bind λa=>(eA a.1 (I 0)).bind λl=>aK l (some (AV.tup [nilS,nilS,a.1],a.2)) ((aE 0 b).bind λn=>(aA true 2 n a.2).bind λo=>(dA YK [(0,2,o)]).bind λp=>dH YK (u,q+12,8) a.2 λd r=>bA 2 d p r λi=>(aE 0 d).bind λs=>(aE 0 s).bind λt=>(aA false 1 t i).bind λv=>(aM prog kJ v).bind λw=>(eV w (I 1)).bind λx=>(aI c uQ [f,(I 0),x] i).bind λe=>(dN e.1).bind λy=>aK y (some (AV.tup [nilS,nilS,(I 6)],e.2)) (vo c h u f b d nilS e.2 (q+23)))
def xh:cG:=λc h u a m q=>(aE 2 a).bind λe=>(aA false 1 e m).bind λf=>(aE 0 a).bind λg=>(aA false 1 g m).bind λi=>(eV f i).bind λb=>(aE 1 a).bind λj=>(aA false 1 j m).bind λk=>(aE 3 a).bind λl=>(aA false 1 l m).bind λn=>(bM k n).bind λd=>(aE 4 a).bind λo=>(aA false 1 o m).bind λp=>(rB p).bind λr=>(bM b d).bind λs=>(nA r s).bind λt=>(aE 4 a).bind λv=>(aA false 1 v m).bind λw=>(rB w).bind λx=>(eV b d).bind λy=>(nA x y).bind λz=>some (AV.tup [t,z,(I 0)],m)
def IR:bL:=λc h u a b m q=>aK b (some (AV.tup [(I 0),(I 0),(I 2)],m)) (xh c h u a m q)
def xg:cG:=λc h u a m q=>(aE 0 a).bind λv=>(aA false 1 v m).bind λw=>(aI c R9 [w,(I 100000000)] m).bind λl=>(dN l.1).bind λb=>aL b false (aE 2 a) l.2 λg=>aL b false (aA false 1 g.1 g.2) g.2 λi=>fB b false (aI c R9 [i.1,(I 100000000)] i.2) i.2 λn=>aL b false (dN n.1) n.2 λe=>(bX b (B true) e.1).bind λo=>aK o (IR c h u a o e.2 (q+11)) ((aE 1 a).bind λx=>(aA false 1 x e.2).bind λy=>(aI c wC [y,(I 0),(I 2048)] e.2).bind λp=>(dN p.1).bind λd=>aL d false (aE 3 a) p.2 λj=>aL d false (aA false 1 j.1 j.2) j.2 λk=>fB d false (aI c wC [k.1,(I 0),(I 2048)] k.2) k.2 λr=>aL d false (dN r.1) r.2 λf=>(bX d (B true) f.1).bind λs=>aK s (IR c h u a s f.2 (q+22)) ((aE 4 a).bind λz=>(aA false 1 z f.2).bind λA=>(aI c wC [A,(I 1),(I 10000)] f.2).bind λt=>(dN t.1).bind λC=>IR c h u a C t.2 (q+27)))
def TG:cG:=λc h u a m q=>cX a (u,q,1) m λb d=>xg c h u b d (q+4)
def TE:gG:=λc h u b g i m q=>(jI g b).bind λa=>bI a true b m λd=>bI a true i d.2 λe=>aL a true (jI d.1 e.1) e.2 λf=>(bX a f.1 (B false)).bind λj=>some (j,f.2)
def XP:cG:=λc h u e m q=>cX e (u,q,1) m λb a=>(aE 0 b).bind λf=>(aA false 1 f a).bind λg=>(aE 1 b).bind λi=>(aA false 1 i a).bind λj=>(aE 2 b).bind λk=>(aA false 1 k a).bind λl=>cV gI [(0,1,g),(1,1,j),(2,1,l)] 3 1 (u,q+8,9) a λn o=>(aI c GB [(I (-100000000)),(I 100000000),n] o).bind λd=>(dN d.1).bind λp=>aK p (some ((I 2),d.2)) (some ((I 0),d.2))
def J':cG:=λc h u a m q=>some (a,m)
def XI(c:aJ)(h:FHs)(u:Nat)(r:eB):eB:=λe a i j k d m q=>(cA d k).bind λo=>aK o ((aV 3 j d).bind λp=>(aA true 3 p m).bind λs=>dH vL (u,q+4,7) m λf t=>bA 3 f s t λl=>(bM d (I 1)).bind λv=>(aM prog pI e).bind λw=>(vU v w).bind λx=>(aV 3 e x).bind λy=>(aA true 3 y l).bind λz=>dH vL (u,q+15,8) l λg A=>bA 3 g z A λb=>(aE 0 f).bind λB=>(aA false 1 B b).bind λC=>(nA a C).bind λD=>(aE 1 f).bind λE=>(aA false 1 E b).bind λF=>(nA a F).bind λG=>(dA JR [(0,1,D),(1,1,G)]).bind λH=>(aE 0 g).bind λJ=>(aA false 1 J b).bind λK=>(nA a K).bind λL=>(aE 1 g).bind λM=>(aA false 1 M b).bind λN=>(nA a N).bind λO=>(dA JR [(0,1,L),(1,1,O)]).bind λP=>(dA rX [(0,2,H),(2,2,P)]).bind λQ=>cV rX [(0,4,Q)] 1 4 (u,q+37,44) b λR n=>cK 4 32 (u,q+38,45) (elems n.get 4 R) i n λS T=>(bM d (I 1)).bind λU=>r e a S j k U T (q+42)) (J' c h u i m (q+1))
def AX(c:aJ)(h:FHs)(u:Nat):Nat->eB
 |0=>λ_ _ _ _ _ _ _ _=>none
 |n+1=>XI c h u (AX c h u n)
def I':gG:=λc h u a b d m q=>(aM prog pI a).bind λe=>AX c h u NN a b d a e (I 0) m (q+3)
def XH:bL:=λc h u a b m q=>I' c h u a b nilS m (q+2)
def XM:bL:=λc h u t v m q=>cX t (u,q,2) m λi w=>cX v (u,q+1,3) w λf e=>(aA true 4 i e).bind λx=>(aA true 2 f e).bind λy=>(aI c uU [x,y] e).bind λo=>(eK o.1 (I 0)).bind λa=>aL a true (aE 0 i) o.2 λj=>aL a true (aA true 2 j.1 j.2) j.2 λb=>aL a true (aA true 2 f b.2) b.2 λd=>fB a true (aI c GA [b.1,d.1] d.2) d.2 λp=>aL a true (aE 2 i) p.2 λg=>aL a true (aA true 2 g.1 g.2) g.2 λk=>aL a true (aA true 2 f k.2) k.2 λl=>fB a true (aI c GA [k.1,l.1] l.2) l.2 λn=>fB a true (aI c xft [p.1,n.1] n.2) n.2 λr=>aL a true (jI r.1 (I 0)) r.2 λs=>(bX a s.1 (B false)).bind λz=>bif(Nat.ble 1 (cY 0 [b.1,d.1])&&true)&&(dJ (some e.next) (tR g.1) (cY 0 [b.1,d.1])&&(dJ (some e.next) (tR f) (cY 0 [b.1,d.1])&&true))then some (z,s.2)else none
def XL:bL:=λc h u N O m q=>cX N (u,q,2) m λb P=>cX O (u,q+1,3) P λd r=>(aA true 4 b r).bind λQ=>(aE 0 d).bind λR=>(aA true 2 R r).bind λS=>(aI c pV [Q,S] r).bind λf=>aL f.1 false (aA true 4 b f.2) f.2 λG=>aL f.1 false (aE 2 d) G.2 λs=>aL f.1 false (aA true 2 s.1 s.2) s.2 λt=>fB f.1 false (aI c pV [G.1,t.1] t.2) t.2 λv=>(bX f.1 (B true) v.1).bind λi=>aL i false (aA true 4 d v.2) v.2 λH=>aL i false (aE 0 b) H.2 λw=>aL i false (aA true 2 w.1 w.2) w.2 λx=>fB i false (aI c pV [H.1,x.1] x.2) x.2 λy=>(bX i (B true) y.1).bind λj=>aL j false (aA true 4 d y.2) y.2 λI=>aL j false (aE 2 b) I.2 λz=>aL j false (aA true 2 z.1 z.2) z.2 λA=>fB j false (aI c pV [I.1,A.1] A.2) A.2 λe=>(bX j (B true) e.1).bind λT=>aK T (some ((B true),e.2)) ((aA true 4 b e.2).bind λl=>(aE 0 d).bind λU=>(aA true 2 U e.2).bind λn=>(aI c uU [l,n] e.2).bind λo=>(aA true 4 b o.2).bind λV=>(aE 2 d).bind λJ=>(aA true 2 J o.2).bind λW=>(aI c uU [V,W] o.2).bind λC=>(eA o.1 C.1).bind λa=>aL a true (aA true 4 d C.2) C.2 λk=>aL a true (aE 0 b) k.2 λD=>aL a true (aA true 2 D.1 D.2) D.2 λg=>fB a true (aI c uU [k.1,g.1] g.2) g.2 λE=>aL a true (aA true 4 d E.2) E.2 λK=>aL a true (aE 2 b) K.2 λp=>aL a true (aA true 2 p.1 p.2) p.2 λF=>fB a true (aI c uU [K.1,F.1] F.2) F.2 λL=>aL a true (eA E.1 L.1) L.2 λM=>(bX a M.1 (B false)).bind λX=>bif(Nat.ble 1 (cY 0 [l,n])&&(Nat.ble 1 (cY 0 [k.1,g.1])&&true))&&(dJ (some e.2.next) (tR b) (cY 0 [l,n])&&(dJ (some e.2.next) (tR J) (cY 0 [l,n])&&(dJ (some e.2.next) (tR d) (cY 0 [k.1,g.1])&&(dJ (some e.2.next) (tR p.1) (cY 0 [k.1,g.1])&&true))))then some (X,M.2)else none)
def V':hY:=λc h u m q=>some ((I 0),m)
def U'(c:aJ)(h:FHs)(u:Nat)(r:eF):eF:=λb d a m q=>(cA a d).bind λf=>aK f ((aV 1 b a).bind λg=>(aA false 1 g m).bind λe=>(eA e (I 0)).bind λi=>aK i (some (e,m)) ((bM a (I 1)).bind λj=>r b d j m (q+8))) (V' c h u m (q+1))
def HY(c:aJ)(h:FHs)(u:Nat):Nat->eF
 |0=>λ_ _ _ _ _=>none
 |n+1=>U' c h u (HY c h u n)
def T':cG:=λc h u a m q=>(aM prog BP a).bind λb=>HY c h u NN a b (I 0) m (q+3)
def XO:cG:=λc h u a m q=>T' c h u a m (q+1)
def S':cG:=λc h u a m q=>some (a,m)
def BH(c:aJ)(h:FHs)(u:Nat)(r:dM):dM:=λa b d e f m q=>(bM f (I 1)).bind λg=>r a b d e g m (q+2)
def JG(c:aJ)(h:FHs)(u:Nat)(r:dM):gH:=λa d i j e f g m q=>(aA true 4 i m).bind λk=>(aA true 2 a m).bind λl=>(aI c uU [k,l] m).bind λb=>(eK b.1 j).bind λn=>aK n ((dN d).bind λo=>BH c h u r a o e f g b.2 (q+8)) (BH c h u r a d e f g b.2 (q+5))
def R'(c:aJ)(h:FHs)(u:Nat)(r:dM):gH:=λb d a i e f g m q=>(aE 2 a).bind λj=>(uH 2 1 j (I 1)).bind λk=>(aA false 1 k m).bind λl=>(aE 0 a).bind λn=>(uH 2 1 n (I 1)).bind λo=>(aA false 1 o m).bind λp=>(cA l p).bind λs=>aK s (JG c h u r b d a (I (-1)) e f g m (q+8)) (JG c h u r b d a i e f g m (q+7))
def Q'(c:aJ)(h:FHs)(u:Nat)(r:dM):eB:=λa b d e f g m q=>R' c h u r a b d (I 1) e f g m (q+1)
def P'(c:aJ)(h:FHs)(u:Nat)(r:dM):dM:=λa b d e f m q=>BH c h u r a b d e f m q
def O'(c:aJ)(h:FHs)(u:Nat)(r:dM):gH:=λa b g d e f i m q=>aK i (Q' c h u r a b g d e f m q) (P' c h u r a b d e f m q)
def N'(c:aJ)(h:FHs)(u:Nat)(r:dM):dM:=λd i f j g m q=>(aV 4 f g).bind λk=>(aA true 4 k m).bind λl=>dH rX (u,q+2,7) m λb n=>bA 4 b l n λe=>(aA true 4 b e).bind λo=>(aA true 2 d e).bind λp=>(aI c pV [o,p] e).bind λa=>aK a.1 (some ((B true),a.2)) ((aE 0 b).bind λs=>(uH 2 1 s (I 1)).bind λt=>(aA false 1 t a.2).bind λv=>(uH 2 1 d (I 1)).bind λw=>(aA false 1 w a.2).bind λx=>(eP v x).bind λy=>(aE 2 b).bind λz=>(uH 2 1 z (I 1)).bind λA=>(aA false 1 A a.2).bind λC=>(uH 2 1 d (I 1)).bind λD=>(aA false 1 D a.2).bind λE=>(eP C E).bind λF=>(bP prog .neq xY (.tmp 23) (.tmp 29) y F).bind λG=>O' c h u r d i b f j g G a.2 (q+20))
def XN(c:aJ)(h:FHs)(u:Nat)(r:dM):dM:=λe a f b d m q=>(cA d b).bind λg=>aK g (N' c h u r e a f b d m (q+1)) (S' c h u a m (q+1))
def xS(c:aJ)(h:FHs)(u:Nat):Nat->dM
 |0=>λ_ _ _ _ _ _ _=>none
 |n+1=>XN c h u (xS c h u n)
def M':gG:=λc h u a b d m q=>(aM prog w6 a).bind λe=>xS c h u NN b d a e (I 0) m (q+3)
def JH:bL:=λc h u a b m q=>cX b (u,q,3) m λd e=>M' c h u a d (B false) e (q+3)
def xl3:hY:=λc h u m q=>some ((I (-1)),m)
def xl2(c:aJ)(h:FHs)(u:Nat)(r:cB):cB:=λd e f a m q=>(cA a f).bind λg=>aK g ((aV 4 d a).bind λi=>(aA true 4 i m).bind λj=>(fD c h 2 e [j] m).bind λb=>aK b.1 (some (a,b.2)) ((bM a (I 1)).bind λk=>r d e f k b.2 (q+11))) (xl3 c h u m (q+1))
def OI(c:aJ)(h:FHs)(u:Nat):Nat->cB
 |0=>λ_ _ _ _ _ _=>none
 |n+1=>xl2 c h u (OI c h u n)
def wy:bL:=λc h u a b m q=>(aM prog rY a).bind λd=>OI c h u NN a b d (I 0) m (q+3)
def SA:bL:=λc h u a b m q=>wy c h u a b m (q+1)
def VO:bL:=λc h u b d m q=>cX b (u,q,2) m λe a=>(aE 0 e).bind λf=>(aA false 1 f a).bind λg=>(aA false 1 d a).bind λi=>(bP prog .eql bN (.tmp 5) (.tmp 6) g i).bind λj=>some (j,a)
def PL:bL:=λc h u b d m q=>(aI c E8 [b,d] m).bind λa=>some (a.1,a.2)
def XC:bL:=λc h u b d m q=>(aI c zC [b,d] m).bind λa=>some (a.1,a.2)
def XD:bL:=λc h u b d m q=>(eD b).bind λp=>(eD d).bind λr=>(jU p r).bind λa=>bI a true b m λe=>bI a true b e.2 λf=>aL a true (eD f.1) f.2 λg=>bI a true d g.2 λi=>aL a true (eD i.1) i.2 λj=>aL a true (eV g.1 j.1) j.2 λk=>aL a true (dZ prog bN e.1 (some k.1) none) k.2 λl=>bI a true d l.2 λn=>aL a true (bP prog .eql bN (.tmp 17) (.tmp 18) l.1 n.1) n.2 λo=>(bX a o.1 (B false)).bind λs=>some (s,o.2)
def xmg:hY:=λc h u m q=>some ((I (-1)),m)
def H'(c:aJ)(h:FHs)(u:Nat)(r:o9):o9:=λe i j Q w f x R m q=>(bM f (I 1)).bind λS=>(kZ prog bN e S).bind λT=>(bP prog .eql eI (.tmp 81) (.tmp 82) T w).bind λa=>bI a true e m λy=>bI a true f y.2 λz=>bI a true f z.2 λA=>bI a true j A.2 λC=>aL a true (bM A.1 C.1) C.2 λD=>aL a true (dZ prog bN y.1 (some z.1) (some D.1)) D.2 λE=>bI a true i E.2 λF=>aL a true (bP prog .eql bN (.tmp 90) (.tmp 91) E.1 F.1) F.2 λk=>(bX a k.1 (B false)).bind λU=>aK U (some (f,k.2)) ((bM f (I 1)).bind λb=>(bM R (I 1)).bind λs=>(aA false 1 (AV.sc (.pointer (some ⟨0,0,none⟩))) k.2).bind λV=>(jI j V).bind λg=>bI g true s k.2 λG=>bI g true b G.2 λt=>fB g true (aI c x1i [t.1] t.2) t.2 λH=>aL g true (eP G.1 H.1) H.2 λl=>(bX g l.1 (B false)).bind λW=>aK W ((dZ prog bN e (some b) none).bind λX=>(aI c xfs [X,i] l.2).bind λn=>(jU n.1 (I 0)).bind λY=>aK Y ((bM n.1 b).bind λZ=>some (Z,n.2)) (some ((I (-1)),n.2))) ((aA false 1 (AV.sc (.pointer (some ⟨0,0,none⟩))) l.2).bind λaa=>(eP j aa).bind λd=>bI d true s l.2 λJ=>bI d true b J.2 λK=>aL d true (bP prog .shr dP (.tmp 123) (.const (.int .u64 4)) K.1 (AV.sc (.int .u64 4))) K.2 λL=>aL d true (bM (I 4) L.1) L.2 λM=>aL d true (jU J.1 M.1) M.2 λN=>(bX d N.1 (B false)).bind λo=>bI o true b N.2 λO=>bI o true x O.2 λP=>aL o true (cA O.1 P.1) P.2 λv=>(bX o v.1 (B false)).bind λab=>aK ab ((dZ prog bN e (some b) none).bind λac=>(aI c x1h [ac,i] v.2).bind λp=>(cA p.1 (I 0)).bind λad=>aK ad (some ((I (-1)),p.2)) ((bM b p.1).bind λae=>some (ae,p.2))) (r e i j Q w b x s v.2 (q+46))))
def xmf(c:aJ)(h:FHs)(u:Nat)(r:o9):o9:=λa g i b j d f k m q=>(kZ prog bN a d).bind λl=>(bP prog .neq eI (.tmp 62) (.tmp 63) l b).bind λn=>aK n ((bM d (I 1)).bind λo=>(dZ prog bN a (some o) (some f)).bind λp=>(aI c E7 [p,b] m).bind λe=>(cA e.1 (I 0)).bind λs=>aK s (some ((I (-1)),e.2)) ((bM e.1 (I 1)).bind λt=>(bM d t).bind λv=>H' c h u r a g i b j v f k e.2 (q+20))) (H' c h u r a g i b j d f k m (q+5))
def xme(c:aJ)(h:FHs)(u:Nat)(r:o9):o9:=λd e f g i a b j m q=>(cA a b).bind λk=>aK k (xmf c h u r d e f g i a b j m (q+3)) (xmg c h u m (q+3))
def jt(c:aJ)(h:FHs)(u:Nat):Nat->o9
 |0=>λ_ _ _ _ _ _ _ _ _ _=>none
 |n+1=>xme c h u (jt c h u n)
def JE:bL:=λc h u a b m q=>(eD b).bind λd=>(eK d (I 0)).bind λf=>bI f false b m λj=>bI f false a j.2 λk=>aL f false (bP prog .eql bN (.tmp 20) (.tmp 21) j.1 k.1) k.2 λe=>(bX f (B true) e.1).bind λr=>aK r (some ((I 0),e.2)) ((eK d (I 1)).bind λs=>aK s ((kZ prog bN b (I 0)).bind λt=>(aI c E7 [a,t] e.2).bind λl=>some (l.1,l.2)) ((eD a).bind λv=>(jU d v).bind λw=>aK w (some ((I (-1)),e.2)) ((aA false 1 (AV.sc (.pointer (some ⟨0,0,none⟩))) e.2).bind λx=>(jI d x).bind λg=>bI g true a e.2 λn=>aL g true (eD n.1) n.2 λo=>aL g true (jI o.1 (I 64)) o.2 λi=>(bX g i.1 (B false)).bind λy=>aK y ((aI c xfs [a,b] i.2).bind λp=>some (p.1,p.2)) ((kZ prog bN b (I 0)).bind λz=>(kZ prog bN b (I 1)).bind λA=>(eD a).bind λC=>(eV C d).bind λD=>(bM D (I 1)).bind λE=>jt c h u NN a b d z A (I 0) E (I 0) i.2 (q+43)))))
def VB:cG:=λc h u d m q=>(aV 1 d (I 0)).bind λe=>(aA false 1 e m).bind λf=>(dA pH [(0,1,f)]).bind λg=>(dA BK [(0,3,g)]).bind λi=>dH BK (u,q+7,4) m λa j=>bA 3 a i j λk=>(dZ prog iQ d (some (I 1)) none).bind λl=>(aE 0 a).bind λn=>(aE 1 n).bind λo=>(aE 0 a).bind λp=>(aE 2 p).bind λr=>cV v7 [(0,1,o),(1,1,r)] 2 1 (u,q+15,17) k λs t=>(c h rL [l,s] t).bind λb=>(aA true 3 a b.2).bind λv=>(oW prog JX v).bind λw=>some (AV.tup [w,b.1],b.2)
def ye:hY:=λc h u m q=>some ((B true),m)
def UQ(c:aJ)(h:FHs)(u:Nat)(r:cB):cB:=λd e f a m q=>(cA a f).bind λg=>aK g ((aV 1 e a).bind λi=>(aA false 1 i m).bind λj=>(aV 1 d a).bind λk=>(aA false 1 k m).bind λl=>(aI c yY [l] m).bind λb=>(cN b.1 0).bind λn=>(cN b.1 1).bind λo=>(dN o).bind λp=>aK p (some ((B false),b.2)) ((cD j).bind λs=>bA 1 s n b.2 λt=>(bM a (I 1)).bind λv=>r d e f v t (q+24))) (ye c h u m (q+1))
def AL(c:aJ)(h:FHs)(u:Nat):Nat->cB
 |0=>λ_ _ _ _ _ _=>none
 |n+1=>UQ c h u (AL c h u n)
def yd:bL:=λc h u b a m q=>(aM prog xa7 a).bind λd=>AL c h u NN b a d (I 0) m (q+3)
def UP:bL:=λc h u a b m q=>yd c h u a b m (q+1)
def VA:cG:=λc h u a m q=>(aV 1 a (I 0)).bind λe=>(aA false 1 e m).bind λi=>(aV 1 a (I 1)).bind λf=>(aA false 1 f m).bind λj=>(aV 1 a (I 2)).bind λg=>(aA false 1 g m).bind λk=>(dA BL [(0,1,i),(1,1,j),(2,1,k)]).bind λl=>dH BL (u,q+12,4) m λb n=>bA 4 b l n λo=>bif(aZ (tR e) (some [],some [(u,q+12,4)])&&(aZ (tR f) (some [],some [(u,q+12,4)])&&(aZ (tR g) (some [],some [(u,q+12,4)])&&true)))then (dZ prog iQ a (some (I 3)) none).bind λp=>(aE 3 b).bind λr=>cV v7 [(0,1,r)] 1 1 (u,q+17,19) o λs t=>(c h rL [p,s] t).bind λd=>(aA true 4 b d.2).bind λv=>(oW prog JY v).bind λw=>some (AV.tup [w,d.1],d.2)else none
def UZ:cG:=λc h u d m q=>(aV 1 d (I 0)).bind λe=>(aA false 1 e m).bind λf=>(dA BN [(0,1,f)]).bind λg=>dH BN (u,q+6,4) m λa i=>bA 2 a g i λj=>(dZ prog iQ d (some (I 1)) none).bind λk=>(aE 1 a).bind λl=>cV v7 [(0,1,l)] 1 1 (u,q+11,13) j λn o=>(c h rL [k,n] o).bind λb=>(aA true 2 a b.2).bind λp=>(oW prog KA p).bind λr=>some (AV.tup [r,b.1],b.2)
def UY:cG:=λc h u b m q=>(aV 1 b (I 0)).bind λe=>(aA false 1 e m).bind λg=>(aV 1 b (I 1)).bind λf=>(aA false 1 f m).bind λi=>(dA BM [(0,1,g),(1,1,i)]).bind λj=>dH BM (u,q+9,4) m λa k=>bA 4 a j k λl=>bif(aZ (tR e) (some [],some [(u,q+9,4)])&&(aZ (tR f) (some [],some [(u,q+9,4)])&&true))then (dZ prog iQ b (some (I 2)) none).bind λn=>(aE 2 a).bind λo=>(aE 3 a).bind λp=>cV v7 [(0,1,o),(1,1,p)] 2 1 (u,q+15,17) l λr s=>(c h rL [n,r] s).bind λd=>(aA true 4 a d.2).bind λt=>(oW prog JZ t).bind λv=>some (AV.tup [v,d.1],d.2)else none
def UX:cG:=λc h u a m q=>(aV 1 a (I 0)).bind λb=>(aA false 1 b m).bind λd=>(oW prog YR d).bind λe=>some (AV.tup [e,(B true)],m)
def UW:cG:=λc h u a m q=>(aV 1 a (I 0)).bind λb=>(aA false 1 b m).bind λd=>(oW prog YS d).bind λe=>some (AV.tup [e,(B true)],m)
def UI:cG:=λc h u d m q=>(aI c P1 [d] m).bind λe=>(cN e.1 0).bind λi=>(cN e.1 1).bind λr=>(bP prog .eql YU (.tmp 12) (.const .nilIface) r (AV.sc .nilIface)).bind λa=>bI a true i e.2 λf=>fB a true (aI c C5 [f.1] f.2) f.2 λj=>bI a true d j.2 λk=>aL a true (bP prog .eql bN (.tmp 16) (.tmp 17) j.1 k.1) k.2 λl=>(bX a l.1 (B false)).bind λb=>bI b true d l.2 λg=>fB b true (aI c DM [g.1,(AV.sc (.string ⟨#[45]⟩))] g.2) g.2 λn=>aL b true (eD n.1) n.2 λo=>aL b true (jI o.1 (I 9)) o.2 λp=>(bX b p.1 (B false)).bind λs=>some (AV.tup [i,s],p.2)
def PN:bL:=λc h u b d m q=>(aI c E9 [b,d] m).bind λa=>some (a.1,a.2)
def SQ:cG:=λc h u a m q=>(bP prog .eql iQ (.tmp 3) (.const (.slice none 0 0)) a nilS).bind λd=>aK d (some (nilS,m)) (cV pG [] 0 1 (u,q+3,5) m λe b=>cK 1 16 (u,q+5,7) (elems b.get 1 a) e b λf g=>some (f,g))
def PK:bL:=λc h u b d m q=>(aI c DL [b,d,(I 0),(I (-1))] m).bind λa=>some (a.1,a.2)
def SJ:bL:=λc h u b d m q=>(aI c EC [b,d] m).bind λa=>(jU a.1 (I 0)).bind λe=>some (e,a.2)
def RF:cG:=λc h u p m q=>cX p (u,q,1) m λa j=>(aE 0 a).bind λr=>(aA true 2 r j).bind λs=>(aI c DT [s] j).bind λb=>(eA b.1 (I 0)).bind λt=>aK t (some (b.1,b.2)) ((aE 0 a).bind λv=>(aE 1 v).bind λw=>(aA false 1 w b.2).bind λx=>(aM prog tQ x).bind λk=>(aE 2 a).bind λy=>(aA false 1 y b.2).bind λz=>(aM prog fE z).bind λA=>(eA A k).bind λd=>aL d false (aE 3 a) b.2 λg=>aL d false (aA false 1 g.1 g.2) g.2 λl=>aL d false (aM prog fE l.1) l.2 λn=>bI d false k n.2 λo=>aL d false (eA n.1 o.1) o.2 λe=>(bX d (B true) e.1).bind λC=>aK C (some ((I 10),e.2)) ((aE 2 a).bind λD=>(aA false 1 D e.2).bind λE=>(aI c D1 [E,(AV.clo Q4 [])] e.2).bind λf=>aK f.1 (some ((I 2),f.2)) ((aE 3 a).bind λF=>(aA false 1 F f.2).bind λG=>(aI c D1 [G,(AV.clo Q3 [])] f.2).bind λi=>aK i.1 (some ((I 2),i.2)) (some ((I 0),i.2)))))
def PS:gG:=λc h u b g i m q=>(jI g b).bind λa=>bI a true b m λd=>bI a true i d.2 λe=>aL a true (jI d.1 e.1) e.2 λf=>(bX a f.1 (B false)).bind λj=>some (j,f.2)
def vb:cG:=λc h u a m q=>some (a,m)
def QK(c:aJ)(h:FHs)(u:Nat)(r:eB):eB:=λf d g i j b m q=>(cA b j).bind λl=>aK l ((aV 2 i b).bind λn=>(aA true 2 n m).bind λo=>dH xX (u,q+4,8) m λe p=>bA 2 e o p λa=>(aV 1 f b).bind λs=>(aA false 1 s a).bind λt=>(aE 1 e).bind λv=>(aA false 1 v a).bind λw=>(aV 1 d w).bind λx=>(aA false 1 x a).bind λy=>(eV t y).bind λz=>(aE 0 e).bind λA=>(aA false 1 A a).bind λB=>(aV 1 d B).bind λC=>(aA false 1 C a).bind λD=>(bM z D).bind λE=>cV gI [(0,1,E)] 1 1 (u,q+24,38) a λF k=>cK 1 8 (u,q+25,39) (elems k.get 1 F) g k λG H=>(bM b (I 1)).bind λJ=>r f d G i j J H (q+29)) (vb c h u g m (q+1))
def Z1(c:aJ)(h:FHs)(u:Nat):Nat->eB
 |0=>λ_ _ _ _ _ _ _ _=>none
 |n+1=>QK c h u (Z1 c h u n)
def uz:qL:=λc h u b d e f m q=>(aE 0 d).bind λg=>(aE 1 g).bind λi=>(aA false 1 i m).bind λa=>(aM prog tQ a).bind λj=>Z1 c h u NN b e f a j (I 0) m (q+5)
def QJ:bL:=λc h u f a m q=>cX f (u,q,2) m λb d=>(aA true 2 b d).bind λg=>(aI c C7 [g,a] d).bind λe=>uz c h u a b e.1 nilS e.2 (q+7)
def uy:cG:=λc h u a m q=>(aA false 1 a m).bind λb=>some (b,m)
def IF(c:aJ)(h:FHs)(u:Nat)(r:dM):dM:=λa b d e f m q=>(bM f (I 1)).bind λg=>r a b d e g m (q+2)
def uv(c:aJ)(h:FHs)(u:Nat)(r:dM):dM:=λe b d f a m q=>(aA false 1 b m).bind λg=>(aV 1 g a).bind λi=>(aA false 1 i m).bind λj=>(dN j).bind λk=>aK k ((aA false 1 d m).bind λl=>(fD c h 2 l [a] m).bind λn=>IF c h u r e b d f a n.2 (q+10)) (IF c h u r e b d f a m (q+7))
def QG(c:aJ)(h:FHs)(u:Nat)(r:dM):dM:=λa e f b d m q=>(cA d b).bind λg=>aK g (uv c h u r a e f b d m (q+1)) (uy c h u a m (q+1))
def Z0(c:aJ)(h:FHs)(u:Nat):Nat->dM
 |0=>λ_ _ _ _ _ _ _=>none
 |n+1=>QG c h u (Z0 c h u n)
def uu:gG:=λc h u a b d m q=>(aA false 1 a m).bind λe=>(aM prog fE e).bind λf=>Z0 c h u NN a b d f (I 0) m (q+3)
def QF:bL:=λc h u r s m q=>cX r (u,q,2) m λd t=>cX s (u,q+1,3) t λv i=>(aE 0 d).bind λw=>(aE 0 w).bind λe=>(aA false 1 e i).bind λx=>(aM prog kJ x).bind λj=>sF gI 1 8 j j (u,q+7,14) i λy k=>(aE 0 d).bind λz=>(aE 0 z).bind λa=>(aA false 1 a k).bind λA=>(aM prog kJ A).bind λl=>sF JS 1 1 l l (u,q+12,19) k λB C=>dH YL (u,q+13,5) C λb D=>dH xay (u,q+14,6) D λf E=>bA 1 b y E λF=>bA 1 f B F λn=>bif(aZ (some [],some [(u,q+7,14)]) (tR a)&&(aZ (tR e) (some [],some [(u,q+12,19)])&&(aZ (some [],some [(u,q+7,14)]) (some [],some [(u,q+12,19)])&&(aZ (tR e) (some [],some [(u,q+13,5)])&&(aZ (some [],some [(u,q+7,14)]) (some [],some [(u,q+13,5)])&&(aZ (tR a) (some [],some [(u,q+13,5)])&&(aZ (some [],some [(u,q+12,19)]) (some [],some [(u,q+13,5)])&&(aZ (tR e) (some [],some [(u,q+14,6)])&&(aZ (some [],some [(u,q+7,14)]) (some [],some [(u,q+14,6)])&&(aZ (tR a) (some [],some [(u,q+14,6)])&&(aZ (some [],some [(u,q+12,19)]) (some [],some [(u,q+14,6)])&&(aZ (some [],some [(u,q+13,5)]) (some [],some [(u,q+14,6)])&&(aZ (tR a) (tS b)&&(aZ (some [],some [(u,q+12,19)]) (tS b)&&true))))))))))))))then (aA true 2 d n).bind λG=>(aI c P7 [G] n).bind λo=>dH YL (u,q+19,7) o.2 λp H=>bA 1 p o.1 H λI=>dH YN (u,q+21,8) I λg J=>bA 1 g (AV.clo wB [f,d,p,b,v,g]) J λK=>uu c h u b f g K (q+24)else none
def vj:cG:=λc h u a m q=>some (a,m)
def IH(c:aJ)(h:FHs)(u:Nat)(r:dM):dM:=λa b d e f m q=>(bM f (I 1)).bind λg=>r a b d e g m (q+2)
def vi(c:aJ)(h:FHs)(u:Nat)(r:dM):dM:=λb d e g a m q=>(aV 2 e a).bind λj=>(aA true 2 j m).bind λk=>dH xX (u,q+3,7) m λi l=>bA 2 i k l λf=>(eA a b).bind λn=>aK n ((aA true 2 i f).bind λo=>(c h P2 [d,o] f).bind λp=>IH c h u r b d e g a p.2 (q+12)) (IH c h u r b d e g a f (q+9))
def QR(c:aJ)(h:FHs)(u:Nat)(r:dM):dM:=λe a f b d m q=>(cA d b).bind λg=>aK g (vi c h u r e a f b d m (q+1)) (vj c h u a m (q+1))
def Z4(c:aJ)(h:FHs)(u:Nat):Nat->dM
 |0=>λ_ _ _ _ _ _ _=>none
 |n+1=>QR c h u (Z4 c h u n)
def vh:gG:=λc h u b d e m q=>(aE 0 d).bind λf=>(aE 1 f).bind λg=>(aA false 1 g m).bind λa=>(aM prog tQ a).bind λi=>Z4 c h u NN b e a i (I 0) m (q+5)
def QQ:bL:=λc h u e f m q=>cX e (u,q,2) m λa b=>(aE 0 a).bind λg=>(aE 0 g).bind λi=>(aA false 1 i b).bind λj=>(aM prog kJ j).bind λk=>(sH c C6 [k] b).bind λd=>vh c h u f a d.1 d.2 (q+8)
def TF:bL:=λc h u d a m q=>(rB a).bind λe=>(aI c wC [d,e,a] m).bind λb=>some (b.1,b.2)
def Z':hY:=λc h u m q=>some ((B true),m)
def XR(c:aJ)(h:FHs)(u:Nat)(r:dM):dM:=λd e f g a m q=>(cA a g).bind λi=>aK i ((aV 1 f a).bind λj=>(aA false 1 j m).bind λk=>(aI c FW [k,d,e] m).bind λb=>(dN b.1).bind λl=>aK l (some ((B false),b.2)) ((bM a (I 1)).bind λn=>r d e f g n b.2 (q+11))) (Z' c h u m (q+1))
def AY(c:aJ)(h:FHs)(u:Nat):Nat->dM
 |0=>λ_ _ _ _ _ _ _=>none
 |n+1=>XR c h u (AY c h u n)
def Y':gG:=λc h u b d a m q=>(aM prog fE a).bind λe=>AY c h u NN b d a e (I 0) m (q+3)
def XQ:gG:=λc h u a b d m q=>Y' c h u a b d m (q+1)
def XJ:bL:=λc h u l n m q=>cX l (u,q,2) m λg o=>cX n (u,q+1,3) o λi a=>(aE 2 g).bind λp=>(aA true 2 p a).bind λd=>(aE 0 g).bind λr=>(aA true 2 r a).bind λe=>(aI c GA [d,e] a).bind λf=>(aA true 2 i f.2).bind λs=>(aE 0 g).bind λj=>(aA true 2 j f.2).bind λt=>(aI c GA [s,t] f.2).bind λk=>(aI c xfu [f.1,k.1] k.2).bind λb=>bif(Nat.ble 1 (cY 0 [d,e])&&true)&&(dJ (some a.next) (tR i) (cY 0 [d,e])&&(dJ (some a.next) (tR j) (cY 0 [d,e])&&true))then (eP b.1 (I 0)).bind λv=>aK v (some ((I 1),b.2)) ((cA b.1 (I 0)).bind λw=>aK w (some ((I (-1)),b.2)) (some ((I 0),b.2)))else none
def PJ:bL:=λc h u b d m q=>(aI c FR [b,d] m).bind λa=>some (a.1,a.2)
def JF:bL:=λc h u d b m q=>(eD d).bind λl=>(eD b).bind λn=>(jU l n).bind λa=>bI a true d m λe=>bI a true b e.2 λf=>aL a true (eD f.1) f.2 λg=>aL a true (dZ prog bN e.1 none (some g.1)) g.2 λi=>bI a true b i.2 λj=>aL a true (bP prog .eql bN (.tmp 14) (.tmp 15) i.1 j.1) j.2 λk=>(bX a k.1 (B false)).bind λo=>some (o,k.2)
def K4:gG:=λc h u d a b m q=>(aV 1 a b).bind λe=>bA 1 e d m λf=>(bM b (I 1)).bind λg=>(dZ prog iQ a none (some g)).bind λi=>some (i,f)
def uc(c:aJ)(h:FHs)(u:Nat)(r:eB):eB:=λa f g i e b m q=>(cA b i).bind λj=>aK j ((aI c C3 [a,f] m).bind λd=>(cA d.1 (I 0)).bind λk=>aK k (K4 c h u a e b d.2 (q+9)) ((bM d.1 g).bind λl=>(dZ prog bN a none (some l)).bind λn=>(aV 1 e b).bind λo=>bA 1 o n d.2 λp=>(eD f).bind λs=>(bM d.1 s).bind λt=>(dZ prog bN a (some t) none).bind λv=>(bM b (I 1)).bind λw=>r v f g i e w p (q+28))) (K4 c h u a e b m (q+3))
def Y6(c:aJ)(h:FHs)(u:Nat):Nat->eB
 |0=>λ_ _ _ _ _ _ _ _=>none
 |n+1=>uc c h u (Y6 c h u n)
def PI:qL:=λc h u b d e f m q=>(eD b).bind λg=>(bM g (I 1)).bind λi=>(B2 f i).bind λa=>sF pG 1 16 a a (u,q+7,31) m λj k=>(eV a (I 1)).bind λl=>Y6 c h u NN b d e l j (I 0) k (q+13)
def ub:qL:=λc h u a b d e m q=>(cA e (I 0)).bind λg=>aK g ((aI c DP [a,b] m).bind λf=>(bM f.1 (I 1)).bind λi=>PI c h u a b d i f.2 (q+7)) (PI c h u a b d e m (q+2))
def PH:qL:=λc h u b d f a m q=>(eK a (I 0)).bind λg=>aK g (some (nilS,m)) ((bP prog .eql bN (.tmp 14) (.const (.string ⟨#[]⟩)) d (AV.sc (.string ⟨#[]⟩))).bind λi=>aK i ((aI c x08 [b,a] m).bind λe=>some (e.1,e.2)) (ub c h u b d f a m (q+5)))
def wr:hY:=λc h u m q=>some ((I (-1)),m)
def RT(c:aJ)(h:FHs)(u:Nat)(r:cB):cB:=λb d e a m q=>(cA a e).bind λf=>aK f ((aV 1 b a).bind λg=>(aA false 1 g m).bind λi=>(bP prog .eql bN (.tmp 11) (.tmp 15) d i).bind λj=>aK j (some (a,m)) ((bM a (I 1)).bind λk=>r b d e k m (q+11))) (wr c h u m (q+1))
def I9(c:aJ)(h:FHs)(u:Nat):Nat->cB
 |0=>λ_ _ _ _ _ _=>none
 |n+1=>RT c h u (I9 c h u n)
def wq:bL:=λc h u a b m q=>(aM prog iQ a).bind λd=>I9 c h u NN a b d (I 0) m (q+3)
def RS:bL:=λc h u a b m q=>wq c h u a b m (q+1)
def QA:cG:=λc h u d m q=>cX d (u,q,1) m λe b=>(aA true 2 e b).bind λf=>(aI c DZ [f] b).bind λa=>(cN a.1 0).bind λi=>(cN a.1 1).bind λg=>some (g,a.2)
def SL:bL:=λc h u b d m q=>(c h C9 [b,d] m).bind λa=>(jU a.1 (I 0)).bind λe=>some (e,a.2)
def RE:cG:=λc h u b m q=>(aI c P3 [b,(I 100000000)] m).bind λa=>(dN a.1).bind λd=>some (d,a.2)
def PW:bL:=λc h u d a m q=>(rB a).bind λe=>(aI c uQ [d,e,a] m).bind λb=>some (b.1,b.2)
def RD:cG:=λc h u b m q=>(aI c uQ [b,(I 0),(I 1000)] m).bind λa=>(dN a.1).bind λd=>some (d,a.2)
def vg:cG:=λc h u a m q=>(c h C8 [a] m).bind λb=>some (a,b.2)
def IG(c:aJ)(h:FHs)(u:Nat)(r:eB):eB:=λa b d e f g m q=>(bM g (I 1)).bind λi=>r a b d e f i m (q+2)
def vf(c:aJ)(h:FHs)(u:Nat)(r:eB):eB:=λa g b d i e m q=>(aV 1 d e).bind λl=>(aA false 1 l m).bind λj=>(aE 0 a).bind λn=>(aE 1 n).bind λo=>(aA false 1 o m).bind λp=>(aV 2 p j).bind λs=>(aA true 2 s m).bind λt=>(c h P2 [b,t] m).bind λf=>aK f.1 (cV gI [(0,1,j)] 1 1 (u,q+13,45) f.2 λv k=>cK 1 8 (u,q+14,46) (elems k.get 1 v) g k λw x=>IG c h u r a w b d i e x (q+16)) (IG c h u r a g b d i e f.2 (q+11))
def QN(c:aJ)(h:FHs)(u:Nat)(r:eB):eB:=λe a f g b d m q=>(cA d b).bind λi=>aK i (vf c h u r e a f g b d m (q+1)) (vg c h u a m (q+1))
def Z3(c:aJ)(h:FHs)(u:Nat):Nat->eB
 |0=>λ_ _ _ _ _ _ _ _=>none
 |n+1=>QN c h u (Z3 c h u n)
def ve:qL:=λc h u b a d e m q=>(aM prog fE a).bind λf=>Z3 c h u NN b d e a f (I 0) m (q+3)
def vd:gG:=λc h u a b f m q=>(c h EB [b,(AV.clo P6 [a])] m).bind λd=>(aE 0 a).bind λg=>(aE 0 g).bind λi=>(aA false 1 i d.2).bind λj=>(aM prog kJ j).bind λk=>(sH c C6 [k] d.2).bind λe=>ve c h u a b f e.1 e.2 (q+9)
def QM(c:aJ)(h:FHs)(u:Nat)(s:dM):dM:=λb d e f a m q=>(cA a f).bind λi=>aK i (cV gI [(0,1,a)] 1 1 (u,q+5,18) m λj g=>cK 1 8 (u,q+6,19) (elems g.get 1 j) d g λk l=>(bM a (I 1)).bind λn=>s b k e f n l (q+10)) (vd c h u b d e m (q+1))
def Z2(c:aJ)(h:FHs)(u:Nat):Nat->dM
 |0=>λ_ _ _ _ _ _ _=>none
 |n+1=>QM c h u (Z2 c h u n)
def vc:gG:=λc h u a b d m q=>(aE 0 a).bind λe=>(aE 1 e).bind λf=>(aA false 1 f m).bind λg=>(aM prog tQ g).bind λi=>Z2 c h u NN a b d i (I 0) m (q+5)
def QL:cG:=λc h u a m q=>cX a (u,q,1) m λb d=>vc c h u b nilS nilS d (q+4)
def ux:HZ:=λc h u f b g i j d a m q=>(aA false 1 f m).bind λk=>(aV 1 k a).bind λl=>(aA false 1 l m).bind λn=>(dN n).bind λo=>aK o ((aA false 1 b m).bind λp=>(aA false 1 b m).bind λr=>(aA false 1 j m).bind λs=>(aV 1 r s).bind λt=>(aA false 1 t m).bind λv=>(aE 1 d).bind λw=>(aA false 1 w m).bind λx=>(aA false 1 g m).bind λy=>(aE 0 d).bind λz=>(aA false 1 z m).bind λA=>(aV 1 y A).bind λB=>(aA false 1 B m).bind λC=>(nA x C).bind λD=>(bM v D).bind λE=>(aV 1 p a).bind λF=>bA 1 F E m λe=>(aA false 1 i e).bind λG=>(fD c h 2 G [a] e).bind λH=>some H.2) (some m)
def QI:HZ:=λc h u b d e f g i j m q=>dH JT (u,q,8) m λa k=>bA 2 a i k λl=>ux c h u b d e f g a j l (q+3)
def uw:OQ:=λc h u a b d e f i m q=>oV i λg caps=>(c (((u,q,0),λargs m=>bif Nat.beq args.length 2&&true then QI c h m.next a b d e f (args.getD 0 U) (args.getD 1 U) ⟨m.hp,m.next+1⟩ 0 else none)::h) g (.yld (u,q,0)::caps) m).bind λp=>(some (AV.tup [],p.2))
def QH:jy:=λc h u g e i j k l n m q=>cX g (u,q,7) m λb d=>(aA false 1 e d).bind λo=>(aA false 1 b d).bind λp=>(aV 1 o p).bind λr=>bA 1 r (B true) d λa=>(aA true 2 i a).bind λs=>(aA false 1 b a).bind λt=>(aA false 1 j a).bind λv=>(aI c DV [s,t,v] a).bind λf=>uw c h u e k l n b f.1 f.2 (q+9)
def QV:gG:=λc h u a b d m q=>cX a (u,q,3) m λe f=>cX b (u,q+1,4) f λg i=>cX d (u,q+2,5) i λj k=>some ((AV.clo yU [j,e,g]),k)
def ul:cG:=λc h u a m q=>some (a,m)
def PZ(c:aJ)(h:FHs)(u:Nat)(r:eF):eF:=λb d a m q=>(cA a d).bind λf=>aK f (cV gI [(0,1,a)] 1 1 (u,q+5,11) m λg e=>cK 1 8 (u,q+6,12) (elems e.get 1 g) b e λi j=>(bM a (I 1)).bind λk=>r i d k j (q+10)) (ul c h u b m (q+1))
def Y9(c:aJ)(h:FHs)(u:Nat):Nat->eF
 |0=>λ_ _ _ _ _=>none
 |n+1=>PZ c h u (Y9 c h u n)
def uk:bL:=λc h u a b m q=>Y9 c h u NN b a (I 0) m (q+2)
def PY:cG:=λc h u a m q=>uk c h u a nilS m (q+2)
def uj:bL:=λc h u a b m q=>(eA a b).bind λd=>some (d,m)
def PV(c:aJ)(h:FHs)(u:Nat)(r:eB):eB:=λa b d e f g m q=>(bM g (I 1)).bind λi=>r a b d e f i m (q+2)
def ui(c:aJ)(h:FHs)(u:Nat)(r:eB):eB:=λf a b g j d m q=>(aV 1 g d).bind λo=>(aA false 1 o m).bind λk=>(eK k a).bind λe=>bI e false k m λl=>bI e false b l.2 λn=>aL e false (eK l.1 n.1) n.2 λi=>(bX e (B true) i.1).bind λp=>aK p ((B2 a b).bind λs=>(aV 1 f d).bind λt=>bA 1 t s i.2 λv=>PV c h u r f a b g j d v (q+20)) (PV c h u r f a b g j d i.2 (q+13))
def PU(c:aJ)(h:FHs)(u:Nat)(r:eB):eB:=λf a b g d e m q=>(cA e d).bind λi=>aK i (ui c h u r f a b g d e m (q+1)) (uj c h u a b m (q+1))
def Y8(c:aJ)(h:FHs)(u:Nat):Nat->eB
 |0=>λ_ _ _ _ _ _ _ _=>none
 |n+1=>PU c h u (Y8 c h u n)
def uh:gG:=λc h u a b d m q=>(aM prog xa6 a).bind λe=>Y8 c h u NN a b d a e (I 0) m (q+3)
def PT:bL:=λc h u b e m q=>cX e (u,q,3) m λd a=>(aE 0 d).bind λf=>(aA false 1 f a).bind λg=>(aV 1 b g).bind λi=>(aA false 1 i a).bind λj=>(aE 1 d).bind λk=>(aA false 1 k a).bind λl=>(aV 1 b l).bind λn=>(aA false 1 n a).bind λo=>uh c h u b j o a (q+14)
def XG:gG:=λc h u b g i m q=>(jI g b).bind λa=>bI a true b m λd=>bI a true i d.2 λe=>aL a true (jI d.1 e.1) e.2 λf=>(bX a f.1 (B false)).bind λj=>some (j,f.2)
def zy:bL:=λc h u a b m q=>(lO prog w5 eI a).bind λd=>(kZ prog bN (AV.sc (.string ⟨#[0,1,2,2,3,3,3,3,4,4,4,4,4,4,4,4,5,5,5,5,5,5,5,5,5,5,5,5,5,5,5,5,6,6,6,6,6,6,6,6,6,6,6,6,6,6,6,6,6,6,6,6,6,6,6,6,6,6,6,6,6,6,6,6,7,7,7,7,7,7,7,7,7,7,7,7,7,7,7,7,7,7,7,7,7,7,7,7,7,7,7,7,7,7,7,7,7,7,7,7,7,7,7,7,7,7,7,7,7,7,7,7,7,7,7,7,7,7,7,7,7,7,7,7,7,7,7,7,8,8,8,8,8,8,8,8,8,8,8,8,8,8,8,8,8,8,8,8,8,8,8,8,8,8,8,8,8,8,8,8,8,8,8,8,8,8,8,8,8,8,8,8,8,8,8,8,8,8,8,8,8,8,8,8,8,8,8,8,8,8,8,8,8,8,8,8,8,8,8,8,8,8,8,8,8,8,8,8,8,8,8,8,8,8,8,8,8,8,8,8,8,8,8,8,8,8,8,8,8,8,8,8,8,8,8,8,8,8,8,8,8,8,8,8,8,8,8,8,8,8,8,8,8,8,8,8]⟩)) d).bind λe=>(lO prog eI dP e).bind λf=>(bM b f).bind λg=>some (g,m)
def zx:bL:=λc h u a b m q=>(bP prog .geq w5 (.tmp 13) (.const (.int .u64 256)) a (AV.sc (.int .u64 256))).bind λd=>aK d ((bP prog .shr w5 (.tmp 15) (.const (.int .u64 8)) a (AV.sc (.int .u64 8))).bind λe=>(bM b (I 8)).bind λf=>zy c h u e f m (q+8)) (zy c h u a b m (q+2))
def zw:bL:=λc h u a b m q=>(bP prog .geq w5 (.tmp 7) (.const (.int .u64 65536)) a (AV.sc (.int .u64 65536))).bind λd=>aK d ((bP prog .shr w5 (.tmp 9) (.const (.int .u64 16)) a (AV.sc (.int .u64 16))).bind λe=>(bM b (I 16)).bind λf=>zx c h u e f m (q+8)) (zx c h u a b m (q+2))
def xmd:bL:=λc h u a b m q=>(bP prog .geq w5 (.tmp 3) (.const (.int .u64 4294967296)) a (AV.sc (.int .u64 4294967296))).bind λd=>aK d ((bP prog .shr w5 (.tmp 5) (.const (.int .u64 32)) a (AV.sc (.int .u64 32))).bind λe=>zw c h u e (I 32) m (q+6)) (zw c h u a b m (q+2))
def zu:cG:=λc h u a m q=>xmd c h u a (I 0) m (q+1)
def XB:bL:=λc h u a d m q=>(aI c E9 [a,d] m).bind λb=>aK b.1 ((eD d).bind λe=>(dZ prog bN a (some e) none).bind λf=>some (f,b.2)) (some (a,b.2))
def xlw(c:aJ)(h:FHs)(u:Nat)(r:eF):eF:=λd b e m q=>(aI c C3 [d,b] m).bind λa=>(eK a.1 (I (-1))).bind λf=>aK f (some (e,a.2)) ((bM e (I 1)).bind λg=>(eD b).bind λi=>(bM a.1 i).bind λj=>(dZ prog bN d (some j) none).bind λk=>r k b g a.2 (q+16))
def jr(c:aJ)(h:FHs)(u:Nat):Nat->eF
 |0=>λ_ _ _ _ _=>none
 |n+1=>xlw c h u (jr c h u n)
def PQ:bL:=λc h u b a m q=>(eD a).bind λf=>(eK f (I 0)).bind λg=>aK g ((aI c x07 [b] m).bind λd=>(bM d.1 (I 1)).bind λi=>some (i,d.2)) ((eD a).bind λj=>(eK j (I 1)).bind λk=>aK k ((kZ prog bN a (I 0)).bind λl=>(aI c zD [b,l] m).bind λe=>some (e.1,e.2)) (jr c h u NN b a (I 0) m (q+8)))
def vx:hY:=λc h u m q=>some (AV.tup [(I 0),(I 0)],m)
def RH(c:aJ)(h:FHs)(u:Nat)(r:dM):dM:=λk f l n d m q=>(cA d n).bind λv=>aK v ((aV 2 l d).bind λw=>(aA true 2 w m).bind λx=>dH xX (u,q+4,8) m λb y=>bA 2 b x y λg=>(aE 0 k).bind λz=>(aA false 1 z g).bind λA=>(aM prog kJ A).bind λC=>(eV C (I 1)).bind λo=>(aE 0 b).bind λD=>(aA false 1 D g).bind λE=>(aI c uQ [E,(I 0),o] g).bind λp=>(dN p.1).bind λe=>aL e false (aE 1 b) p.2 λi=>aL e false (aA false 1 i.1 i.2) i.2 λs=>bI e false o s.2 λj=>fB e false (aI c uQ [s.1,(I 0),j.1] j.2) j.2 λt=>aL e false (dN t.1) t.2 λa=>(bX e (B true) a.1).bind λF=>aK F (some (AV.tup [d,(I 6)],a.2)) ((aE 0 b).bind λG=>(aA false 1 G a.2).bind λH=>(aE 1 b).bind λJ=>(aA false 1 J a.2).bind λK=>(jU H K).bind λL=>aK L (some (AV.tup [d,(I 9)],a.2)) ((aA true 2 b a.2).bind λM=>(yL prog YT f M false a.2).bind λN=>aK N (some (AV.tup [d,(I 28)],a.2)) ((aA true 2 b a.2).bind λO=>uG prog YT f O (B true) a.2 λP=>(bM d (I 1)).bind λQ=>r k f l n Q P (q+40))))) (vx c h u m (q+1))
def I8(c:aJ)(h:FHs)(u:Nat):Nat->dM
 |0=>λ_ _ _ _ _ _ _=>none
 |n+1=>RH c h u (I8 c h u n)
def vw:bL:=λc h u a d m q=>(aE 1 a).bind λe=>(aA false 1 e m).bind λb=>(aM prog tQ b).bind λf=>I8 c h u NN a d b f (I 0) m (q+4)
def RG:cG:=λc h u f m q=>cX f (u,q,1) m λb d=>(aE 0 b).bind λg=>(aA false 1 g d).bind λi=>(aI c Q1 [i] d).bind λa=>(cN a.1 0).bind λj=>(cN a.1 1).bind λe=>(eA e (I 0)).bind λk=>aK k (some (AV.tup [j,e],a.2)) ((aE 1 b).bind λl=>(aA false 1 l a.2).bind λn=>(aM prog tQ n).bind λo=>(eP o (I 200)).bind λp=>aK p (some (AV.tup [(I 0),(I 8)],a.2)) (CP (u,q+17,24) a.2 λr s=>vw c h u b r s (q+19)))
def RX:hY:=λc h u m q=>some ((I (-1)),m)
def BD(c:aJ)(h:FHs)(u:Nat)(r:cB):cB:=λd e f a m q=>(cA a f).bind λg=>aK g ((aV 1 d a).bind λi=>(aA false 1 i m).bind λj=>(fD c h 2 e [j] m).bind λb=>aK b.1 (some (a,b.2)) ((bM a (I 1)).bind λk=>r d e f k b.2 (q+11))) (RX c h u m (q+1))
def vJ(c:aJ)(h:FHs)(u:Nat):Nat->cB
 |0=>λ_ _ _ _ _ _=>none
 |n+1=>BD c h u (vJ c h u n)
def RW:bL:=λc h u a b m q=>(aM prog fE a).bind λd=>vJ c h u NN a b d (I 0) m (q+3)
def IM:bL:=λc h u a b m q=>RW c h u a b m (q+1)
def RR:bL:=λc h u a b m q=>(aM prog fE a).bind λd=>(c h LZ [a,d,b] m).bind λe=>(some (AV.tup [],e.2))
def QO:gG:=λc h u a g b m q=>(aA true 2 b m).bind λd=>(aI c P8 [d,a] m).bind λe=>(aA true 2 b e.2).bind λi=>(aI c P8 [i,g] e.2).bind λf=>(eV e.1 f.1).bind λj=>bif(Nat.ble 1 (cY 0 [d,a])&&true)&&(dJ (some m.next) (tR b) (cY 0 [d,a])&&true)then some (j,f.2)else none
def QP:bL:=λc h u x y m q=>cX x (u,q,2) m λk l=>(aE 0 k).bind λz=>(aE 1 z).bind λA=>(aA false 1 A l).bind λB=>(aV 2 B y).bind λC=>(aA true 2 C l).bind λD=>dH xX (u,q+8,5) l λn E=>bA 2 n D E λa=>(aE 0 k).bind λF=>(aE 0 F).bind λo=>(aA false 1 o a).bind λG=>(aE 0 n).bind λp=>(aA false 1 p a).bind λH=>(aV 3 G H).bind λr=>(aA true 3 r a).bind λI=>(aE 0 k).bind λJ=>(aE 0 J).bind λe=>(aA false 1 e a).bind λK=>(aE 1 n).bind λf=>(aA false 1 f a).bind λL=>(aV 3 K L).bind λg=>(aA true 3 g a).bind λM=>dH pH (u,q+24,6) a λb N=>dH pH (u,q+25,7) N λs O=>bA 3 b I O λP=>bA 3 s M P λd=>bif(aZ (tR o) (some [],some [(u,q+24,6)])&&(aZ (tR p) (some [],some [(u,q+24,6)])&&(aZ (tR r) (some [],some [(u,q+24,6)])&&(aZ (tR e) (some [],some [(u,q+24,6)])&&(aZ (tR f) (some [],some [(u,q+24,6)])&&(aZ (tR g) (some [],some [(u,q+24,6)])&&(aZ (tR o) (some [],some [(u,q+25,7)])&&(aZ (tR p) (some [],some [(u,q+25,7)])&&(aZ (tR r) (some [],some [(u,q+25,7)])&&(aZ (tR e) (some [],some [(u,q+25,7)])&&(aZ (tR f) (some [],some [(u,q+25,7)])&&(aZ (tR g) (some [],some [(u,q+25,7)])&&(aZ (some [],some [(u,q+24,6)]) (some [],some [(u,q+25,7)])&&(aZ (tR e) (tS b)&&(aZ (tR f) (tS b)&&(aZ (tR g) (tS b)&&true))))))))))))))))then (aE 1 b).bind λQ=>(aA false 1 Q d).bind λR=>(aE 1 s).bind λS=>(aA false 1 S d).bind λT=>(eV R T).bind λi=>(aI c P4 [i] d).bind λj=>(aE 2 b).bind λt=>(aA false 1 t j.2).bind λU=>(aE 2 s).bind λv=>(aA false 1 v j.2).bind λV=>(eV U V).bind λW=>(aI c P4 [W] j.2).bind λw=>(bM j.1 w.1).bind λX=>bif(Nat.ble 1 (cY 0 [i])&&true)&&(dJ (some d.next) (tR t) (cY 0 [i])&&(dJ (some d.next) (tR v) (cY 0 [i])&&true))then some (X,w.2)else none else none
def RQ:cG:=λc h u a m q=>(aM prog fE a).bind λb=>(lO prog dP YQ b).bind λe=>(aI c FP [e] m).bind λd=>(c h Q5 [a,(I 0),b,d.1] d.2).bind λf=>(some (AV.tup [],f.2))
def vl(c:aJ)(h:FHs)(u:Nat)(r:eB):eB:=λa b d e f g m q=>(bM g (I 1)).bind λi=>r a b d e f i m (q+2)
def QU(c:aJ)(h:FHs)(u:Nat)(r:eB)(s:pF):pF:=λd e f o p t v w g m q=>(cA g (I 2)).bind λz=>aK z ((kZ prog BS w g).bind λA=>(dA JT [(0,1,o),(1,1,A)]).bind λC=>dH JT (u,q+6,9) m λi D=>bA 2 i C D λj=>(aA true 2 e j).bind λE=>(aA true 2 i j).bind λF=>(aI c DW [E,F] j).bind λb=>(cN b.1 0).bind λG=>(cN b.1 1).bind λH=>(aA false 1 f b.2).bind λJ=>(eK G J).bind λa=>bI a true d b.2 λk=>aL a true (aA true 2 i k.2) k.2 λx=>bI a true H x.2 λl=>fB a true (fD c h 2 k.1 [x.1,l.1] l.2) l.2 λy=>aL a true (dN y.1) y.2 λn=>(bX a n.1 (B false)).bind λK=>aK K (some (AV.tup [],n.2)) ((bM g (I 1)).bind λL=>s d e f o p t v w L n.2 (q+28))) (vl c h u r d e f p t v m (q+1))
def I5(c:aJ)(h:FHs)(u:Nat)(r:eB):Nat->pF
 |0=>λ_ _ _ _ _ _ _ _ _ _ _=>none
 |n+1=>QU c h u r (I5 c h u r n)
def vk(c:aJ)(h:FHs)(u:Nat)(r:eB):eB:=λd e f a g b m q=>(aV 1 a b).bind λi=>(aA false 1 i m).bind λj=>(dA xa5 [(0,1,(I 1)),(1,1,(I (-1)))]).bind λk=>I5 c h u r NN d e f j a g b k (I 0) m (q+5)
def QT(c:aJ)(h:FHs)(u:Nat)(r:eB):eB:=λd e f g a b m q=>(cA b a).bind λi=>aK i (vk c h u r d e f g a b m (q+1)) ((some (AV.tup [],m)))
def o0(c:aJ)(h:FHs)(u:Nat):Nat->eB
 |0=>λ_ _ _ _ _ _ _ _=>none
 |n+1=>QT c h u (o0 c h u n)
def QS:qL:=λc h u b d e f m q=>(aA false 1 d m).bind λa=>(aM prog fE a).bind λg=>o0 c h u NN b e f a g (I 0) m (q+3)
def QW:bL:=λc h u f g m q=>cX f (u,q,2) m λi j=>cX g (u,q+1,3) j λe d=>(aE 0 i).bind λk=>(aE 1 k).bind λl=>(aA false 1 l d).bind λn=>(aE 0 e).bind λo=>(aA false 1 o d).bind λp=>(aV 2 n p).bind λr=>(aA true 2 r d).bind λs=>dH xX (u,q+11,6) d λb t=>bA 2 b s t λa=>(aE 1 e).bind λv=>(aA false 1 v a).bind λw=>(cA w (I 0)).bind λx=>aK x ((aE 1 b).bind λy=>(aA false 1 y a).bind λz=>(aE 0 b).bind λA=>(aA false 1 A a).bind λB=>some (AV.tup [z,B],a)) ((aE 0 b).bind λC=>(aA false 1 C a).bind λD=>(aE 1 b).bind λE=>(aA false 1 E a).bind λF=>some (AV.tup [D,F],a))
def vn:hY:=λc h u m q=>some (AV.tup [(I 0),(I 0)],m)
def QZ(c:aJ)(h:FHs)(u:Nat)(r:cB):cB:=λk l n a m q=>(cA a n).bind λt=>aK t ((aV 3 l a).bind λv=>(aA true 3 v m).bind λw=>dH pH (u,q+4,5) m λb x=>bA 3 b w x λo=>(aE 0 b).bind λy=>(aA false 1 y o).bind λz=>(aI c DU [z] o).bind λf=>(dN f.1).bind λA=>aK A (some (AV.tup [a,(I 4)],f.2)) ((dZ prog kJ k none (some a)).bind λC=>(aI c EH [C,(AV.clo nW [b])] f.2).bind λe=>aK e.1 (some (AV.tup [a,(I 5)],e.2)) ((aE 1 b).bind λD=>(aA false 1 D e.2).bind λE=>(aI c uQ [E,(I 0),(I 100000)] e.2).bind λp=>(dN p.1).bind λd=>aL d false (aE 2 b) p.2 λg=>aL d false (aA false 1 g.1 g.2) g.2 λi=>fB d false (aI c P3 [i.1,(I 100000)] i.2) i.2 λs=>aL d false (dN s.1) s.2 λj=>(bX d (B true) j.1).bind λF=>aK F (some (AV.tup [a,(I 2)],j.2)) ((bM a (I 1)).bind λG=>r k l n G j.2 (q+31))))) (vn c h u m (q+1))
def I7(c:aJ)(h:FHs)(u:Nat):Nat->cB
 |0=>λ_ _ _ _ _ _=>none
 |n+1=>QZ c h u (I7 c h u n)
def vm:cG:=λc h u a m q=>(aM prog kJ a).bind λb=>I7 c h u NN a a b (I 0) m (q+3)
def QX:cG:=λc h u a m q=>(aM prog kJ a).bind λb=>(eP b (I 60)).bind λd=>aK d (some (AV.tup [(I 0),(I 8)],m)) (vm c h u a m (q+5))
def wd(c:aJ)(h:FHs)(u:Nat)(r:cB):cB:=λa b d e m q=>(nA e (I 2)).bind λf=>r a b d f m (q+3)
def xlz(c:aJ)(h:FHs)(u:Nat)(r:cB):dM:=λb a d e f m q=>(bM f e).bind λg=>(cA g a).bind λi=>aK i ((c h xfr [b,f,g,a,d] m).bind λj=>wd c h u r b a d e j.2 (q+13)) (wd c h u r b a d e m (q+7))
def xly(c:aJ)(h:FHs)(u:Nat)(r:cB)(s:eB):eB:=λd e f a g b m q=>(jI b e).bind λi=>aK i ((bM g a).bind λj=>(c h xfr [d,g,j,b,f] m).bind λk=>(nA (I 2) a).bind λl=>(bM b l).bind λn=>s d e f a b n k.2 (q+18)) (xlz c h u r d e f a g m (q+3))
def js(c:aJ)(h:FHs)(u:Nat)(r:cB):Nat->eB
 |0=>λ_ _ _ _ _ _ _ _=>none
 |n+1=>xly c h u r (js c h u r n)
def xlx(c:aJ)(h:FHs)(u:Nat)(r:cB):cB:=λb d e a m q=>(nA (I 2) a).bind λf=>js c h u r NN b d e a (I 0) f m (q+4)
def wb(c:aJ)(h:FHs)(u:Nat)(r:cB):cB:=λd a e b m q=>(cA b a).bind λf=>aK f (xlx c h u r d a e b m (q+3)) ((some (AV.tup [],m)))
def OG(c:aJ)(h:FHs)(u:Nat):Nat->cB
 |0=>λ_ _ _ _ _ _=>none
 |n+1=>wb c h u (OG c h u n)
def vz:xln:=λc h u a b d e f m q=>(c h Q6 [a,f,b,d] m).bind λg=>OG c h u NN a b d e g.2 (q+5)
def vy(c:aJ)(h:FHs)(u:Nat)(w:eB):eB:=λb d e f g a m q=>(jI a d).bind λi=>aK i ((c h Q6 [b,g,a,e] m).bind λj=>(bM a f).bind λk=>w b d e f a k j.2 (q+14)) (vz c h u b d e f g m (q+3))
def OF(c:aJ)(h:FHs)(u:Nat):Nat->eB
 |0=>λ_ _ _ _ _ _ _ _=>none
 |n+1=>vy c h u (OF c h u n)
def RI:gG:=λc h u a b d m q=>OF c h u NN a b d (I 20) (I 0) (I 20) m (q+4)
def PX:cG:=λc h u a m q=>(rB a).bind λb=>(CQ a b).bind λd=>some (d,m)
def wk(c:aJ)(h:FHs)(u:Nat)(r:eB):o9:=λb d e g F G H j m q=>(eP d (I 0)).bind λa=>bI a true b m λp=>bI a true d p.2 λs=>aL a true (eV s.1 (I 1)) s.2 λt=>aL a true (aV 1 p.1 t.1) t.2 λk=>aL a true (aA false 1 k.1 k.2) k.2 λv=>bI a true b v.2 λw=>bI a true j w.2 λx=>aL a true (aV 1 w.1 x.1) x.2 λl=>aL a true (aA false 1 l.1 l.2) l.2 λn=>fB a true (aI c U3 [v.1,n.1] n.2) n.2 λy=>aL a true (dN y.1) y.2 λo=>(bX a o.1 (B false)).bind λJ=>aK J ((c h x1b [b,d,e,j] o.2).bind λz=>r b z.1 e g F G z.2 (q+23)) ((c h x1a [b,d,e,j] o.2).bind λi=>(cN i.1 0).bind λf=>(cN i.1 1).bind λA=>(eV f d).bind λC=>(eV e f).bind λD=>(LC H (I 8)).bind λE=>(cA C D).bind λK=>aK K ((jU C E).bind λL=>(c h Q5 [b,d,f,g] i.2).bind λM=>(bM f (I 1)).bind λN=>r b N e g L A M.2 (q+53)) ((jU D E).bind λO=>(bM f (I 1)).bind λP=>(c h Q5 [b,P,e,g] i.2).bind λQ=>r b d f g O A Q.2 (q+53)))
def wj(c:aJ)(h:FHs)(u:Nat)(r:eB):pF:=λb d e k a f l n s m q=>bI a true f m λo=>(bX a o.1 (B false)).bind λg=>bI g true s o.2 λp=>aL g true (eK p.1 (I 1)) p.2 λi=>(bX g i.1 (B false)).bind λt=>aK t ((c h x1c [b,d,e] i.2).bind λj=>aK j.1 (some (AV.tup [],j.2)) (wk c h u r b d e k a f l n j.2 (q+12))) (wk c h u r b d e k a f l n i.2 (q+8))
def xl1(c:aJ)(h:FHs)(u:Nat)(r:eB):pF:=λd a b e f g i j k m q=>(eK k (I 2)).bind λl=>aK l ((c h x09 [d,a,b] m).bind λn=>(eV b (I 1)).bind λo=>(eV j a).bind λp=>(eV o p).bind λs=>wj c h u r d a b e f g i s (I 1) n.2 (q+14)) (wj c h u r d a b e f g i j k m (q+2))
def wh(c:aJ)(h:FHs)(u:Nat)(r:eB):gH:=λb d e f g i j m q=>(c h x1e [b,d,e] m).bind λa=>(cN a.1 0).bind λk=>(cN a.1 1).bind λl=>xl1 c h u r b d e f g i j k l a.2 (q+9)
def xl0(c:aJ)(h:FHs)(u:Nat)(r:eB):gH:=λa b d f e g i m q=>(dN e).bind λj=>aK j ((c h x1f [a,b,d] m).bind λk=>(eV f (I 1)).bind λl=>wh c h u r a b d l e g i k.2 (q+9)) (wh c h u r a b d f e g i m (q+2))
def wg(c:aJ)(h:FHs)(u:Nat)(r:eB):eB:=λd a b e g i m q=>(eV b a).bind λf=>(jI f (I 12)).bind λj=>aK j ((c h EA [d,a,b] m).bind λk=>some (AV.tup [],k.2)) ((eK e (I 0)).bind λl=>aK l ((c h x1d [d,a,b] m).bind λn=>some (AV.tup [],n.2)) (xl0 c h u r d a b e g i f m (q+8)))
def OH(c:aJ)(h:FHs)(u:Nat):Nat->eB
 |0=>λ_ _ _ _ _ _ _ _=>none
 |n+1=>wg c h u (OH c h u n)
def RJ:qL:=λc h u a b d e m q=>OH c h u NN a b d e (B true) (B true) m (q+2)
def WU:cG:=λc h u a m q=>aK (B false) ((lO prog YQ xnm a).bind λe=>(aI c x1g [e] m).bind λb=>some (b.1,b.2)) ((aI c FO [a] m).bind λd=>some (d.1,d.2))
def ut:hY:=λc h u m q=>some ((B true),m)
def QE(c:aJ)(h:FHs)(u:Nat)(r:eF):eF:=λa b d m q=>(bM d (I 1)).bind λe=>r a b e m (q+2)
def QD(c:aJ)(h:FHs)(u:Nat)(r:eF):eB:=λv e g i j w m q=>aK w (QE c h u r g i j m q) ((eP v (I 0)).bind λb=>bI b true e m λk=>aL b true (bP prog .eql eI (.tmp 37) (.const (.int .u8 45)) k.1 (AV.sc (.int .u8 45))) k.2 λl=>bI b true l.1 l.2 λa=>bI a.1 false e a.2 λn=>aL a.1 false (bP prog .geq eI (.tmp 40) (.const (.int .u8 48)) n.1 (AV.sc (.int .u8 48))) n.2 λo=>bI a.1 false o.1 o.2 λd=>bI d.1 true e d.2 λp=>aL d.1 true (bP prog .leq eI (.tmp 43) (.const (.int .u8 57)) p.1 (AV.sc (.int .u8 57))) p.2 λs=>aL a.1 false (bX d.1 s.1 (B false)) s.2 λt=>aL b true (bX a.1 (B true) t.1) t.2 λf=>(bX b f.1 (B false)).bind λx=>aK x (QE c h u r g i j f.2 (q+15)) (some ((B false),f.2)))
def ur(c:aJ)(h:FHs)(u:Nat)(r:eF):dM:=λf a g i j m q=>(bP prog .geq eI (.tmp 21) (.const (.int .u8 97)) a (AV.sc (.int .u8 97))).bind λb=>bI b true a m λk=>aL b true (bP prog .leq eI (.tmp 24) (.const (.int .u8 122)) k.1 (AV.sc (.int .u8 122))) k.2 λd=>(bX b d.1 (B false)).bind λl=>aK l (QD c h u r f a g i j l d.2 (q+7)) ((bP prog .geq eI (.tmp 27) (.const (.int .u8 65)) a (AV.sc (.int .u8 65))).bind λe=>bI e true a d.2 λn=>aL e true (bP prog .leq eI (.tmp 30) (.const (.int .u8 90)) n.1 (AV.sc (.int .u8 90))) n.2 λo=>(bX e o.1 (B false)).bind λp=>QD c h u r f a g i j p o.2 (q+14))
def uq(c:aJ)(h:FHs)(u:Nat)(r:eF):eF:=λb d a m q=>(aV 1 b a).bind λe=>(aA false 1 e m).bind λf=>ur c h u r a f b d a m (q+5)
def QC(c:aJ)(h:FHs)(u:Nat)(r:eF):eF:=λd a b m q=>(cA b a).bind λe=>aK e (uq c h u r d a b m (q+1)) (ut c h u m (q+1))
def I4(c:aJ)(h:FHs)(u:Nat):Nat->eF
 |0=>λ_ _ _ _ _=>none
 |n+1=>QC c h u (I4 c h u n)
def um:cG:=λc h u b m q=>(lO prog bN qQ b).bind λa=>(aM prog qQ a).bind λd=>I4 c h u NN a d (I 0) m (q+4)
def QB:cG:=λc h u b m q=>(bP prog .eql bN (.tmp 5) (.const (.string ⟨#[]⟩)) b (AV.sc (.string ⟨#[]⟩))).bind λa=>bI a false b m λe=>aL a false (eD e.1) e.2 λf=>aL a false (eP f.1 (I 12)) f.2 λd=>(bX a (B true) d.1).bind λg=>aK g (some ((B false),d.2)) (um c h u b d.2 (q+8))
def SN:bL:=λc h u b d m q=>(fC c D0 [b,d] m).bind λa=>(jU a.1 (I 0)).bind λe=>some (e,a.2)
def QY:bL:=λc h u b d m q=>cX b (u,q,2) m λe a=>(aE 0 e).bind λf=>(aA false 1 f a).bind λg=>(aE 0 d).bind λi=>(aA false 1 i a).bind λj=>(bP prog .eql bN (.tmp 5) (.tmp 7) g j).bind λk=>some (k,a)
def RP(c:aJ)(h:FHs)(u:Nat)(r:dM):dM:=λa b d e f m q=>(bM f (I 1)).bind λg=>r a b d e g m (q+3)
def RO(c:aJ)(h:FHs)(u:Nat)(r:dM)(s:eB):eB:=λb f l g n d m q=>(eP d f).bind λa=>bI a true g m λo=>bI a true b o.2 λp=>bI a true d p.2 λt=>aL a true (aV 1 p.1 t.1) t.2 λi=>aL a true (aA false 1 i.1 i.2) i.2 λv=>bI a true b v.2 λw=>bI a true d w.2 λx=>aL a true (eV x.1 (I 1)) x.2 λy=>aL a true (aV 1 w.1 y.1) y.2 λj=>aL a true (aA false 1 j.1 j.2) j.2 λk=>fB a true (fD c h 2 o.1 [v.1,k.1] k.2) k.2 λz=>aL a true (cA z.1 (I 0)) z.2 λe=>(bX a e.1 (B false)).bind λA=>aK A ((eV d (I 1)).bind λC=>(eV d (I 1)).bind λD=>(aV 1 b D).bind λE=>(aA false 1 E e.2).bind λF=>(aV 1 b d).bind λG=>(aA false 1 G e.2).bind λH=>(aV 1 b d).bind λJ=>bA 1 J F e.2 λK=>(aV 1 b C).bind λL=>bA 1 L H K λM=>(eV d (I 1)).bind λN=>s b f l g n N M (q+38)) (RP c h u r b f l g n e.2 (q+17))
def Z8(c:aJ)(h:FHs)(u:Nat)(r:dM):Nat->eB
 |0=>λ_ _ _ _ _ _ _ _=>none
 |n+1=>RO c h u r (Z8 c h u r n)
def wo(c:aJ)(h:FHs)(u:Nat)(r:dM):dM:=λb d e f a m q=>Z8 c h u r NN b d e f a a m (q+2)
def IL(c:aJ)(h:FHs)(u:Nat)(r:dM):dM:=λd e a f b m q=>(cA b a).bind λg=>aK g (wo c h u r d e a f b m (q+3)) ((some (AV.tup [],m)))
def o6(c:aJ)(h:FHs)(u:Nat):Nat->dM
 |0=>λ_ _ _ _ _ _ _=>none
 |n+1=>IL c h u (o6 c h u n)
def RN:qL:=λc h u b a d e m q=>(bM a (I 1)).bind λf=>o6 c h u NN b a d e f m (q+3)
def RM(c:aJ)(h:FHs)(u:Nat)(r:cB):cB:=λa b d e m q=>(bM e (I 1)).bind λf=>r a b d f m (q+3)
def RL(c:aJ)(h:FHs)(u:Nat)(r:cB)(s:dM):dM:=λb f k l d m q=>(eP d f).bind λa=>bI a true b m λn=>bI a true d n.2 λo=>aL a true (aV 1 n.1 o.1) o.2 λg=>aL a true (aA false 1 g.1 g.2) g.2 λp=>bI a true b p.2 λt=>bI a true d t.2 λv=>aL a true (eV v.1 (I 1)) v.2 λw=>aL a true (aV 1 t.1 w.1) w.2 λi=>aL a true (aA false 1 i.1 i.2) i.2 λj=>fB a true (aI c U3 [p.1,j.1] j.2) j.2 λe=>(bX a e.1 (B false)).bind λx=>aK x ((eV d (I 1)).bind λy=>(eV d (I 1)).bind λz=>(aV 1 b z).bind λA=>(aA false 1 A e.2).bind λC=>(aV 1 b d).bind λD=>(aA false 1 D e.2).bind λE=>(aV 1 b d).bind λF=>bA 1 F C e.2 λG=>(aV 1 b y).bind λH=>bA 1 H E G λJ=>(eV d (I 1)).bind λK=>s b f k l K J (q+36)) (RM c h u r b f k l e.2 (q+15))
def Z7(c:aJ)(h:FHs)(u:Nat)(r:cB):Nat->dM
 |0=>λ_ _ _ _ _ _ _=>none
 |n+1=>RL c h u r (Z7 c h u r n)
def wn(c:aJ)(h:FHs)(u:Nat)(r:cB):cB:=λb d e a m q=>Z7 c h u r NN b d e a a m (q+2)
def IK(c:aJ)(h:FHs)(u:Nat)(r:cB):cB:=λd e a b m q=>(cA b a).bind λf=>aK f (wn c h u r d e a b m (q+3)) ((some (AV.tup [],m)))
def o5(c:aJ)(h:FHs)(u:Nat):Nat->cB
 |0=>λ_ _ _ _ _ _=>none
 |n+1=>IK c h u (o5 c h u n)
def RK:gG:=λc h u b a d m q=>(bM a (I 1)).bind λe=>o5 c h u NN b a d e m (q+3)
def XZ:bL:=λc h u e f m q=>(aI c U2 [e] m).bind λa=>bI a.1 true f a.2 λd=>fB a.1 true (aI c U2 [d.1] d.2) d.2 λg=>aL a.1 true (dN g.1) g.2 λi=>(bX a.1 i.1 (B false)).bind λb=>bI b false e i.2 λj=>bI b false f j.2 λk=>aL b false (cA j.1 k.1) k.2 λl=>(bX b (B true) l.1).bind λn=>some (n,l.2)
def wx:hY:=λc h u m q=>some ((I (-1)),m)
def RZ(c:aJ)(h:FHs)(u:Nat)(r:cB):cB:=λd e f a m q=>(cA a f).bind λg=>aK g ((aV 3 d a).bind λi=>(aA true 3 i m).bind λj=>(fD c h 2 e [j] m).bind λb=>aK b.1 (some (a,b.2)) ((bM a (I 1)).bind λk=>r d e f k b.2 (q+11))) (wx c h u m (q+1))
def J0(c:aJ)(h:FHs)(u:Nat):Nat->cB
 |0=>λ_ _ _ _ _ _=>none
 |n+1=>RZ c h u (J0 c h u n)
def RY:bL:=λc h u a b m q=>(aM prog kJ a).bind λd=>J0 c h u NN a b d (I 0) m (q+3)
def IN:bL:=λc h u a b m q=>RY c h u a b m (q+1)
def XY:cG:=λc h u a m q=>(eA a a).bind λb=>some (b,m)
def UD:bL:=λc h u N O m q=>cX N (u,q,3) m λP Q=>cX O (u,q+1,4) Q λb g=>(aE 0 P).bind λx=>(aA true 3 x g).bind λR=>(aA false 1 b g).bind λS=>(cD S).bind λT=>(aE 1 T).bind λU=>(aE 0 U).bind λl=>(aA false 1 l g).bind λV=>(aM prog kJ V).bind λi=>dH pH (u,q+11,7) g λd W=>bA 3 d R W λn=>bif(aZ (tR x) (some [],some [(u,q+11,7)])&&(aZ (tR b) (some [],some [(u,q+11,7)])&&(aZ (tR l) (some [],some [(u,q+11,7)])&&(aZ (tR b) (tS d)&&(aZ (tR l) (tS d)&&true)))))then (eK i (I 12)).bind λX=>aK X (some ((I 16),n)) ((aE 0 d).bind λY=>(aA false 1 Y n).bind λZ=>(fC c rK [Z,(AV.clo uR [b]),i] n).bind λo=>(aE 1 d).bind λaa=>(aA false 1 aa o.2).bind λab=>(aI c rI [ab,(I 0),(I 100000)] o.2).bind λf=>aL f.1 true (aE 2 d) f.2 λp=>aL f.1 true (aA false 1 p.1 p.2) p.2 λr=>fB f.1 true (aI c rJ [r.1,(I 100000)] r.2) r.2 λy=>(bX f.1 y.1 (B false)).bind λac=>(aI c pS [ac] y.2).bind λz=>cV qP [(0,1,o.1),(1,1,z.1)] 2 1 (u,q+30,34) z.2 λad ae=>(aI c uT [ad] ae).bind λj=>(eA j.1 (I 0)).bind λaf=>aK af (some (j.1,j.2)) ((eP i (I 0)).bind λa=>aL a true (aE 1 d) j.2 λs=>aL a true (aA false 1 s.1 s.2) s.2 λt=>aL a true (aA false 1 b t.2) t.2 λA=>aL a true (cD A.1) A.2 λC=>aL a true (aE 1 C.1) C.2 λD=>aL a true (aE 0 D.1) D.2 λv=>aL a true (aA false 1 v.1 v.2) v.2 λE=>bI a true i E.2 λF=>aL a true (eV F.1 (I 1)) F.2 λG=>aL a true (aV 3 E.1 G.1) G.2 λH=>aL a true (aE 1 H.1) H.2 λw=>aL a true (aA false 1 w.1 w.2) w.2 λJ=>aL a true (jI t.1 J.1) J.2 λe=>(bX a e.1 (B false)).bind λag=>aK ag (some ((I 9),e.2)) ((aA false 1 b e.2).bind λah=>(aA false 1 b e.2).bind λai=>(cD ai).bind λaj=>(aE 1 aj).bind λak=>(aE 0 ak).bind λK=>(aA false 1 K e.2).bind λal=>(aI c R8 [al] e.2).bind λk=>(aA true 3 d k.2).bind λam=>cV pH [(0,3,am)] 1 3 (u,q+60,64) k.2 λL M=>cK 3 32 (u,q+61,65) (elems M.get 3 L) k.1 M λan ao=>(cD ah).bind λap=>(aE 1 ap).bind λaq=>(aE 0 aq).bind λar=>bA 1 ar an ao λau=>bif(aZ (tR b) (some [],some [(u,q+60,64)])&&(aZ (tR b) (some [],some [(u,q+60,64)])&&(aZ (tR K) (some [],some [(u,q+60,64)])&&(aZ (tR b) (tX L,tA (u,q+61,65) k.1)&&true))))then some ((I 0),au)else none)))else none
def UC:bL:=λc h u a b m q=>(aA false 1 b m).bind λd=>(cD d).bind λe=>(aE 1 e).bind λf=>(aE 0 f).bind λg=>(aA false 1 g m).bind λi=>(aV 3 i a).bind λj=>(aE 0 j).bind λk=>(aA false 1 k m).bind λl=>some (l,m)
def TB:cG:=λc h u a m q=>(aM prog kJ a).bind λb=>(aM prog kJ a).bind λd=>(nV prog kJ a none b d).bind λe=>some (e,m)
def UF:bL:=λc h u J d m q=>cX J (u,q,3) m λe n=>(cD d).bind λt=>(aA true 5 t n).bind λK=>(aE 0 e).bind λv=>(aA false 1 v n).bind λL=>(fC c D7 [K,L] n).bind λf=>(cD d).bind λw=>(aA true 5 w f.2).bind λM=>(aE 1 e).bind λx=>(aA false 1 x f.2).bind λN=>(fC c wH [M,N] f.2).bind λg=>(cD d).bind λy=>(aA true 5 y g.2).bind λO=>(aE 2 e).bind λz=>(aA false 1 z g.2).bind λP=>(fC c wH [O,P] g.2).bind λo=>(aE 3 e).bind λA=>(aA false 1 A o.2).bind λQ=>(dA tP [(0,1,f.1),(1,1,g.1),(2,1,o.1),(3,1,Q)]).bind λR=>dH tP (u,q+23,7) o.2 λa S=>bA 4 a R S λC=>bif(aZ (tR t) (some [],some [(u,q+23,7)])&&(aZ (tR v) (some [],some [(u,q+23,7)])&&(aZ (tR w) (some [],some [(u,q+23,7)])&&(aZ (tR x) (some [],some [(u,q+23,7)])&&(aZ (tR y) (some [],some [(u,q+23,7)])&&(aZ (tR z) (some [],some [(u,q+23,7)])&&(aZ (tR A) (some [],some [(u,q+23,7)])&&true)))))))then (aE 0 a).bind λT=>(aA false 1 T C).bind λU=>(cA U (I 0)).bind λi=>aL i false (aE 1 a) C λp=>aL i false (aA false 1 p.1 p.2) p.2 λD=>aL i false (cA D.1 (I 0)) D.2 λE=>(bX i (B true) E.1).bind λj=>aL j false (aE 2 a) E.2 λr=>aL j false (aA false 1 r.1 r.2) r.2 λF=>aL j false (cA F.1 (I 0)) F.2 λb=>(bX j (B true) b.1).bind λV=>aK V (some ((I 6),b.2)) ((aE 1 a).bind λW=>(aA false 1 W b.2).bind λX=>(aE 2 a).bind λY=>(aA false 1 Y b.2).bind λZ=>(jU X Z).bind λaa=>aK aa (some ((I 9),b.2)) ((cD d).bind λab=>(aE 1 ab).bind λac=>(aE 1 ac).bind λad=>(aA false 1 ad b.2).bind λae=>(fC c R4 [ae,(AV.clo pT [a])] b.2).bind λk=>aK k.1 (some ((I 28),k.2)) ((aE 3 a).bind λaf=>(aA false 1 af k.2).bind λag=>(aI c rJ [ag,(I 100000)] k.2).bind λl=>(dN l.1).bind λah=>aK ah (some ((I 2),l.2)) ((cD d).bind λai=>(aE 1 ai).bind λaj=>(aE 1 aj).bind λG=>(aA false 1 G l.2).bind λak=>(aI c EP [ak] l.2).bind λs=>(aA true 4 a s.2).bind λal=>cV tP [(0,4,al)] 1 4 (u,q+66,70) s.2 λam H=>cK 4 32 (u,q+67,71) (elems H.get 4 am) s.1 H λan ao=>(cD d).bind λap=>(aE 1 ap).bind λaq=>(aE 1 aq).bind λar=>bA 1 ar an ao λau=>bif(aZ (tR G) (some [],some [(u,q+66,70)])&&true)then some ((I 0),au)else none))))else none
def VN:bL:=λc h u d e m q=>cX d (u,q,2) m λf g=>cX e (u,q+1,3) g λi a=>(aE 1 f).bind λj=>(aE 0 j).bind λk=>(aA false 1 k a).bind λl=>(fC c D0 [l,(AV.clo D5 [i])] a).bind λb=>some (b.1,b.2)
def SO:bL:=λc h u b d m q=>(fC c Q8 [b,d] m).bind λa=>(jU a.1 (I 0)).bind λe=>some (e,a.2)
def UE:bL:=λc h u t d m q=>cX t (u,q,2) m λe f=>(aE 0 e).bind λv=>(aA false 1 v f).bind λw=>(aE 0 d).bind λx=>(aA false 1 x f).bind λy=>(eK w y).bind λa=>aL a true (aE 1 e) f λg=>aL a true (aA false 1 g.1 g.2) g.2 λl=>aL a true (aE 1 d) l.2 λi=>aL a true (aA false 1 i.1 i.2) i.2 λn=>aL a true (eK l.1 n.1) n.2 λo=>(bX a o.1 (B false)).bind λb=>aL b true (aE 2 e) o.2 λj=>aL b true (aA false 1 j.1 j.2) j.2 λp=>aL b true (aE 2 d) p.2 λk=>aL b true (aA false 1 k.1 k.2) k.2 λr=>aL b true (eK p.1 r.1) r.2 λs=>(bX b s.1 (B false)).bind λz=>some (z,s.2)
def TC:cG:=λc h u a m q=>(aM prog mW a).bind λb=>(aM prog mW a).bind λd=>(nV prog mW a none b d).bind λe=>some (e,m)
def VM:bL:=λc h u b d m q=>cX b (u,q,2) m λe a=>(aE 0 e).bind λf=>(aA false 1 f a).bind λg=>(aA false 1 d a).bind λi=>(bP prog .eql bN (.tmp 5) (.tmp 6) g i).bind λj=>some (j,a)
def xl7:hY:=λc h u m q=>some ((I (-1)),m)
def xl6(c:aJ)(h:FHs)(u:Nat)(r:cB):cB:=λd e f a m q=>(cA a f).bind λg=>aK g ((aV 4 d a).bind λi=>(aA true 4 i m).bind λj=>(fD c h 2 e [j] m).bind λb=>aK b.1 (some (a,b.2)) ((bM a (I 1)).bind λk=>r d e f k b.2 (q+11))) (xl7 c h u m (q+1))
def OK(c:aJ)(h:FHs)(u:Nat):Nat->cB
 |0=>λ_ _ _ _ _ _=>none
 |n+1=>xl6 c h u (OK c h u n)
def xa:bL:=λc h u a b m q=>(aM prog mW a).bind λd=>OK c h u NN a b d (I 0) m (q+3)
def SD:bL:=λc h u a b m q=>xa c h u a b m (q+1)
def VF:hY:=λc h u m q=>some ((I 0),m)
def IX(c:aJ)(h:FHs)(u:Nat)(r:dM):dM:=λa b d e f m q=>(bM f (I 1)).bind λg=>r a b d e g m (q+2)
def ym(c:aJ)(h:FHs)(u:Nat)(r:dM):dM:=λe b d g f m q=>(cD e).bind λi=>(aE 1 i).bind λj=>(aE 1 j).bind λk=>(aA false 1 k m).bind λl=>(aV 4 l f).bind λa=>(cD a).bind λn=>(aE 2 n).bind λo=>(aA false 1 o m).bind λp=>(eK d p).bind λs=>aK s ((cD a).bind λt=>(aE 3 t).bind λv=>(aA false 1 v m).bind λw=>(aE 1 b).bind λx=>(aA false 1 x m).bind λy=>(bM w y).bind λz=>(cD a).bind λA=>(aE 3 A).bind λB=>bA 1 B z m λC=>IX c h u r e b d g f C (q+27)) ((cD a).bind λD=>(aE 1 D).bind λE=>(aA false 1 E m).bind λF=>(eK d F).bind λG=>aK G ((cD a).bind λH=>(aE 3 H).bind λI=>(aA false 1 I m).bind λJ=>(aE 1 b).bind λK=>(aA false 1 K m).bind λL=>(eV J L).bind λM=>(cD a).bind λN=>(aE 3 N).bind λO=>bA 1 O M m λP=>IX c h u r e b d g f P (q+33)) (IX c h u r e b d g f m (q+23)))
def IW(c:aJ)(h:FHs)(u:Nat)(r:dM):dM:=λd e f a b m q=>(cA b a).bind λg=>aK g (ym c h u r d e f a b m (q+1)) (VF c h u m (q+1))
def xR(c:aJ)(h:FHs)(u:Nat):Nat->dM
 |0=>λ_ _ _ _ _ _ _=>none
 |n+1=>IW c h u (xR c h u n)
def yk:gG:=λc h u a b d m q=>(cD a).bind λe=>(aE 1 e).bind λf=>(aE 1 f).bind λg=>(aA false 1 g m).bind λi=>(aM prog mW i).bind λj=>xR c h u NN a b d j (I 0) m (q+7)
def VE:bL:=λc h u i b m q=>cX i (u,q,3) m λe f=>(cD b).bind λj=>(aA true 5 j f).bind λk=>(aE 0 e).bind λl=>(aA false 1 l f).bind λn=>(fC c wH [k,n] f).bind λa=>(cA a.1 (I 0)).bind λo=>aK o (some ((I 6),a.2)) ((aE 1 e).bind λp=>(aA false 1 p a.2).bind λr=>(aI c rJ [r,(I 10000)] a.2).bind λd=>(dN d.1).bind λs=>aK s (some ((I 2),d.2)) ((cD b).bind λt=>(aE 1 t).bind λv=>(aE 1 v).bind λw=>(aA false 1 w d.2).bind λx=>(uI c yX [x] d.2).bind λg=>(cD b).bind λy=>(aE 1 y).bind λz=>(aE 1 z).bind λA=>bA 1 A g.1 g.2 λB=>yk c h u b e a.1 B (q+28)))
def UM:gG:=λc h u H b J m q=>cX H (u,q,3) m λe n=>(cD b).bind λt=>(aA true 5 t n).bind λK=>(aE 0 e).bind λv=>(aA false 1 v n).bind λL=>(fC c D7 [K,L] n).bind λf=>(cD b).bind λw=>(aA true 5 w f.2).bind λM=>(aE 1 e).bind λx=>(aA false 1 x f.2).bind λN=>(fC c wH [M,N] f.2).bind λg=>(aE 2 e).bind λy=>(aA false 1 y g.2).bind λO=>(aE 3 e).bind λz=>(aA false 1 z g.2).bind λP=>(dA vM [(0,1,J),(1,1,f.1),(2,1,g.1),(3,1,O),(4,1,P)]).bind λQ=>dH vM (u,q+20,7) g.2 λa R=>bA 5 a Q R λA=>bif(aZ (tR t) (some [],some [(u,q+20,7)])&&(aZ (tR v) (some [],some [(u,q+20,7)])&&(aZ (tR w) (some [],some [(u,q+20,7)])&&(aZ (tR x) (some [],some [(u,q+20,7)])&&(aZ (tR y) (some [],some [(u,q+20,7)])&&(aZ (tR z) (some [],some [(u,q+20,7)])&&true))))))then (aE 1 a).bind λS=>(aA false 1 S A).bind λT=>(cA T (I 0)).bind λi=>aL i false (aE 2 a) A λo=>aL i false (aA false 1 o.1 o.2) o.2 λC=>aL i false (cA C.1 (I 0)) C.2 λj=>(bX i (B true) j.1).bind λU=>aK U (some ((I 6),j.2)) ((aE 3 a).bind λV=>(aA false 1 V j.2).bind λW=>(aI c rJ [W,(I 1000000)] j.2).bind λD=>(dN D.1).bind λd=>aL d false (aE 4 a) D.2 λp=>aL d false (aA false 1 p.1 p.2) p.2 λr=>fB d false (aI c rI [r.1,(I 0),(I 1000000)] r.2) r.2 λE=>aL d false (dN E.1) E.2 λk=>(bX d (B true) k.1).bind λX=>aK X (some ((I 2),k.2)) ((cD b).bind λY=>(aE 1 Y).bind λZ=>(aE 2 Z).bind λaa=>(aA false 1 aa k.2).bind λab=>(fC c R5 [ab,(AV.clo pU [a])] k.2).bind λl=>aK l.1 (some ((I 28),l.2)) ((cD b).bind λac=>(aE 1 ac).bind λad=>(aE 2 ad).bind λF=>(aA false 1 F l.2).bind λae=>(aI c EQ [ae] l.2).bind λs=>(aA true 5 a s.2).bind λaf=>cV vM [(0,5,af)] 1 5 (u,q+58,62) s.2 λag G=>cK 5 40 (u,q+59,63) (elems G.get 5 ag) s.1 G λah ai=>(cD b).bind λaj=>(aE 1 aj).bind λak=>(aE 2 ak).bind λal=>bA 1 al ah ai λam=>bif(aZ (tR F) (some [],some [(u,q+58,62)])&&true)then some ((I 0),am)else none)))else none
def SP:bL:=λc h u b d m q=>(fC c Q9 [b,d] m).bind λa=>(jU a.1 (I 0)).bind λe=>some (e,a.2)
def UL:bL:=λc h u l f m q=>cX l (u,q,2) m λg b=>(aE 1 g).bind λn=>(aA false 1 n b).bind λo=>(aE 1 f).bind λp=>(aA false 1 p b).bind λr=>(eK o r).bind λa=>aL a true (aE 2 g) b λd=>aL a true (aA false 1 d.1 d.2) d.2 λi=>aL a true (aE 2 f) i.2 λe=>aL a true (aA false 1 e.1 e.2) e.2 λj=>aL a true (eK i.1 j.1) j.2 λk=>(bX a k.1 (B false)).bind λs=>some (s,k.2)
def TD:cG:=λc h u a m q=>(aM prog sA a).bind λb=>(aM prog sA a).bind λd=>(nV prog sA a none b d).bind λe=>some (e,m)
def xl9:hY:=λc h u m q=>some ((I (-1)),m)
def xl8(c:aJ)(h:FHs)(u:Nat)(r:cB):cB:=λd e f a m q=>(cA a f).bind λg=>aK g ((aV 5 d a).bind λi=>(aA true 5 i m).bind λj=>(fD c h 2 e [j] m).bind λb=>aK b.1 (some (a,b.2)) ((bM a (I 1)).bind λk=>r d e f k b.2 (q+11))) (xl9 c h u m (q+1))
def OL(c:aJ)(h:FHs)(u:Nat):Nat->cB
 |0=>λ_ _ _ _ _ _=>none
 |n+1=>xl8 c h u (OL c h u n)
def xb:bL:=λc h u a b m q=>(aM prog sA a).bind λd=>OL c h u NN a b d (I 0) m (q+3)
def SE:bL:=λc h u a b m q=>xb c h u a b m (q+1)
def VG:bL:=λc h u r d m q=>(cD d).bind λs=>(aA true 5 s m).bind λt=>(fC c wJ [t,r] m).bind λb=>(cA b.1 (I 0)).bind λv=>aK v (some ((I 6),b.2)) ((cD d).bind λw=>(aE 1 w).bind λx=>(aE 3 x).bind λy=>(aA false 1 y b.2).bind λz=>(aI c yV [z,b.1] b.2).bind λa=>bI a.1 false d a.2 λi=>aL a.1 false (cD i.1) i.2 λf=>aL a.1 false (aA true 5 f.1 f.2) f.2 λj=>bI a.1 false b.1 j.2 λg=>fB a.1 false (aI c D9 [j.1,g.1] g.2) g.2 λk=>aL a.1 false (N5 false 1 0 k.1) k.2 λl=>aL a.1 false (eA l.1 (I 2)) l.2 λe=>(bX a.1 (B true) e.1).bind λA=>aK A (some ((I 24),e.2)) ((cD d).bind λC=>(aE 1 C).bind λD=>(aE 3 D).bind λE=>(aA false 1 E e.2).bind λF=>(aI c EO [F] e.2).bind λn=>cV gI [(0,1,b.1)] 1 1 (u,q+35,41) n.2 λG o=>cK 1 8 (u,q+36,42) (elems o.get 1 G) n.1 o λH J=>(cD d).bind λK=>(aE 1 K).bind λL=>(aE 3 L).bind λM=>bA 1 M H J λp=>(cD d).bind λN=>(aE 1 N).bind λO=>(aE 3 O).bind λP=>(aA false 1 P p).bind λQ=>(c h C8 [Q] p).bind λR=>some ((I 0),R.2)))
def SK:bL:=λc h u b d m q=>(aI c ED [b,d] m).bind λa=>(jU a.1 (I 0)).bind λe=>some (e,a.2)
def TA:cG:=λc h u a m q=>(aM prog fE a).bind λb=>(aM prog fE a).bind λd=>(nV prog fE a none b d).bind λe=>some (e,m)
def ww:hY:=λc h u m q=>some ((I (-1)),m)
def RV(c:aJ)(h:FHs)(u:Nat)(r:cB):cB:=λb d e a m q=>(cA a e).bind λf=>aK f ((aV 1 b a).bind λg=>(aA false 1 g m).bind λi=>(eK d i).bind λj=>aK j (some (a,m)) ((bM a (I 1)).bind λk=>r b d e k m (q+11))) (ww c h u m (q+1))
def Z9(c:aJ)(h:FHs)(u:Nat):Nat->cB
 |0=>λ_ _ _ _ _ _=>none
 |n+1=>RV c h u (Z9 c h u n)
def wu:bL:=λc h u a b m q=>(aM prog fE a).bind λd=>Z9 c h u NN a b d (I 0) m (q+3)
def RU:bL:=λc h u a b m q=>wu c h u a b m (q+1)
def VI:bL:=λc h u t b m q=>(cD b).bind λv=>(aA true 5 v m).bind λw=>(fC c wJ [w,t] m).bind λk=>dH gI (u,q+6,7) k.2 λd x=>bA 1 d k.1 x λe=>(aA false 1 d e).bind λy=>(cA y (I 0)).bind λz=>aK z (some ((I 6),e)) ((cD b).bind λA=>(aE 1 A).bind λC=>(aE 3 C).bind λD=>(aA false 1 D e).bind λE=>(aA false 1 d e).bind λF=>(aI c yV [E,F] e).bind λl=>(dN l.1).bind λa=>bI a false b l.2 λn=>aL a false (cD n.1) n.2 λg=>aL a false (aA true 5 g.1 g.2) g.2 λi=>aL a false (aA false 1 d i.2) i.2 λj=>fB a false (aI c D9 [i.1,j.1] j.2) j.2 λo=>aL a false (N5 false 1 0 o.1) o.2 λp=>aL a false (eK p.1 (I 2)) p.2 λf=>(bX a (B true) f.1).bind λG=>aK G (some ((I 24),f.2)) ((cD b).bind λH=>(aE 1 H).bind λJ=>(aE 3 J).bind λK=>(aA false 1 K f.2).bind λL=>(uI c yW [L] f.2).bind λr=>(c h R0 [r.1,(AV.clo rM [d])] r.2).bind λs=>(cD b).bind λM=>(aE 1 M).bind λN=>(aE 3 N).bind λO=>bA 1 O s.1 s.2 λP=>some ((I 0),P)))
def xf:bL:=λc h u a b m q=>(dZ prog fE a (some b) none).bind λd=>CT gI 1 d m λ_ e=>(dZ prog fE a none (some b)).bind λf=>some (f,e)
def SI(c:aJ)(h:FHs)(u:Nat)(r:cB):cB:=λa b d e m q=>(bM e (I 1)).bind λf=>r a b d f m (q+3)
def xe(c:aJ)(h:FHs)(u:Nat)(r:cB):cB:=λa b d e m q=>(aV 1 a e).bind λi=>(aA false 1 i m).bind λg=>(fD c h 2 b [g] m).bind λf=>(dN f.1).bind λj=>aK j ((aV 1 a d).bind λk=>bA 1 k g f.2 λl=>(bM d (I 1)).bind λn=>SI c h u r a b n e l (q+17)) (SI c h u r a b d e f.2 (q+9))
def SH(c:aJ)(h:FHs)(u:Nat)(r:cB):cB:=λa e b d m q=>(aM prog fE a).bind λf=>(cA d f).bind λg=>aK g (xe c h u r a e b d m (q+4)) (xf c h u a b m (q+4))
def AA(c:aJ)(h:FHs)(u:Nat):Nat->cB
 |0=>λ_ _ _ _ _ _=>none
 |n+1=>SH c h u (AA c h u n)
def xd:gG:=λc h u b d a m q=>(bM a (I 1)).bind λe=>AA c h u NN b d a e m (q+3)
def SG:bL:=λc h u b d m q=>(c h C9 [b,d] m).bind λa=>(eK a.1 (I (-1))).bind λe=>aK e (some (b,a.2)) (xd c h u b d a.1 a.2 (q+7))
end Go.Ix
