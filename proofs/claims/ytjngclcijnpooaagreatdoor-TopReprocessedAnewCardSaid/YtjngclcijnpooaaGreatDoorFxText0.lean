import Derived.Test.YtjngclcijnpooaaGreatDoorFxConst
set_option linter.all false
open Go.Proofs.Tryz
noncomputable section
namespace Go.Ix
open Go.Proofs
def px:jI:=λc h u m q=>some ((B true),m)
def NR(c:aJ)(h:FHs)(u:Nat)(r:cB):cB:=λb d w g m q=>(aD 3 b).bind λH=>(aA false 1 H m).bind λJ=>(aM prog qA J).bind λK=>(cC g K).bind λL=>aK L ((aA true 5 b m).bind λi=>(aI c sC [i] m).bind λx=>(aI c sD [d] x.2).bind λj=>(aD 3 b).bind λo=>(aA false 1 o j.2).bind λM=>(aR 4 M g).bind λN=>(aD 0 N).bind λp=>(aA false 1 p j.2).bind λO=>(aI c B9 [x.1,j.1,O] j.2).bind λa=>(cO a.1 0).bind λP=>(cO a.1 1).bind λQ=>(cO a.1 2).bind λR=>bif(Nat.ble 1 (bU 0 [i])&&(Nat.ble 1 (bU 0 [d])&&true))&&(cU (some m.next) (tR o) (bU 0 [i])&&(cU (some m.next) (tR o) (bU 0 [d])&&(cU (some m.next) (tR p) (bU 0 [i])&&(cU (some m.next) (tR p) (bU 0 [d])&&true))))then (aA true 5 b a.2).bind λk=>(aI c sC [k] a.2).bind λy=>(aI c sD [w] y.2).bind λl=>(aD 3 b).bind λz=>(aA false 1 z l.2).bind λS=>(aR 4 S g).bind λT=>(aD 0 T).bind λA=>(aA false 1 A l.2).bind λU=>(aI c B9 [y.1,l.1,U] l.2).bind λn=>(cO n.1 0).bind λV=>(cO n.1 1).bind λW=>(cO n.1 2).bind λX=>bif(Nat.ble 1 (bU 0 [k])&&true)&&(cU (some a.2.next) (tR z) (bU 0 [k])&&(cU (some a.2.next) (tR A) (bU 0 [k])&&true))then (eF R X).bind λe=>bL e false P n.2 λC=>bL e false V C.2 λs=>fI e false (aI c yK [C.1,s.1] s.2) s.2 λD=>aL e false (dU D.1) D.2 λE=>(bX e (B true) E.1).bind λf=>bL f false Q E.2 λF=>bL f false W F.2 λt=>fI f false (aI c yK [F.1,t.1] t.2) t.2 λG=>aL f false (dU G.1) G.2 λv=>(bX f (B true) v.1).bind λY=>aK Y (some ((B false),v.2)) ((bJ g (I 1)).bind λZ=>r b d w Z v.2 (q+59))else none else none) (px c h u m (q+5))
def W4(c:aJ)(h:FHs)(u:Nat):Nat->cB
 |0=>λ_ _ _ _ _ _=>none
 |n+1=>NR c h u (W4 c h u n)
def NO:gB:=λc h u a b d m q=>W4 c h u NN a b d (I 0) m (q+1)
def GF(c:aJ)(h:FHs)(u:Nat)(s:dK):dK:=λi w g x y k m q=>(aD 1 g).bind λW=>(aA false 1 W m).bind λX=>(aM prog mW X).bind λY=>(cC k Y).bind λZ=>aK Z ((aD 1 g).bind λaa=>(aA false 1 aa m).bind λab=>(aR 4 ab k).bind λac=>(aA true 4 ac m).bind λad=>dG pX (u,q+10,18) m λd ae=>aU 4 d ad ae λl=>(aD 0 d).bind λaf=>(aA false 1 af l).bind λag=>(aD 3 i).bind λah=>(aA false 1 ah l).bind λai=>(aM prog qA ai).bind λaj=>(eQ aj (I 1)).bind λak=>(aI c yJ [ag,(I 0),ak] l).bind λz=>(dU z.1).bind λe=>aL e false (aD 1 d) z.2 λn=>aL e false (aA false 1 n.1 n.2) n.2 λA=>aL e false (aD 0 g) A.2 λo=>aL e false (aA false 1 o.1 o.2) o.2 λC=>aL e false (aM prog jN C.1) C.2 λD=>aL e false (eQ D.1 (I 1)) D.2 λp=>fI e false (aI c yJ [A.1,(I 0),p.1] p.2) p.2 λE=>aL e false (dU E.1) E.2 λF=>(bX e (B true) F.1).bind λf=>aL f false (aD 2 d) F.2 λr=>aL f false (aA false 1 r.1 r.2) r.2 λG=>aL f false (aD 0 g) G.2 λt=>aL f false (aA false 1 t.1 t.2) t.2 λH=>aL f false (aM prog jN H.1) H.2 λJ=>aL f false (eQ J.1 (I 1)) J.2 λv=>fI f false (aI c yJ [G.1,(I 0),v.1] v.2) v.2 λK=>aL f false (dU K.1) K.2 λj=>(bX f (B true) j.1).bind λal=>aK al (some ((B false),j.2)) ((aD 3 d).bind λam=>(aA false 1 am j.2).bind λan=>(aI c yJ [an,(I (-100000)),(I 100000)] j.2).bind λa=>(dU a.1).bind λao=>aK ao (some ((B true),a.2)) ((aD 3 i).bind λL=>(aA false 1 L a.2).bind λap=>(aD 0 d).bind λM=>(aA false 1 M a.2).bind λaq=>(aR 4 ap aq).bind λar=>(aD 0 ar).bind λN=>(aA false 1 N a.2).bind λau=>(bY prog .add bK (.const (.string ⟨#[112,97,105,114,32]⟩)) (.tmp 190) (AV.sc (.string ⟨#[112,97,105,114,32]⟩)) au).bind λav=>(bY prog .add bK (.tmp 191) (.const (.string ⟨#[32]⟩)) av (AV.sc (.string ⟨#[32]⟩))).bind λaw=>(aD 0 g).bind λO=>(aA false 1 O a.2).bind λax=>(aD 1 d).bind λP=>(aA false 1 P a.2).bind λay=>(aR 3 ax ay).bind λaz=>(aD 0 az).bind λQ=>(aA false 1 Q a.2).bind λa0=>(bY prog .add bK (.tmp 192) (.tmp 199) aw a0).bind λa1=>(bY prog .add bK (.tmp 200) (.const (.string ⟨#[32]⟩)) a1 (AV.sc (.string ⟨#[32]⟩))).bind λa2=>(aD 0 g).bind λR=>(aA false 1 R a.2).bind λa3=>(aD 2 d).bind λS=>(aA false 1 S a.2).bind λa4=>(aR 3 a3 a4).bind λa5=>(aD 0 a5).bind λT=>(aA false 1 T a.2).bind λa6=>(bY prog .add bK (.tmp 201) (.tmp 208) a2 a6).bind λa7=>(bY prog .add bK (.tmp 209) (.const (.string ⟨#[32]⟩)) a7 (AV.sc (.string ⟨#[32]⟩))).bind λa8=>(aD 3 d).bind λa9=>(aA false 1 a9 a.2).bind λb=>(aI c C4 [b] a.2).bind λU=>(bY prog .add bK (.tmp 210) (.tmp 213) a8 U.1).bind λba=>(cY nW [(0,1,x),(1,1,ba)]).bind λbb=>cQ nW [(0,2,bb)] 1 2 (u,q+78,216) U.2 λbc V=>cJ 2 32 (u,q+79,217) (elems V.get 2 bc) y V λbd be=>bif(Nat.ble 1 (bU 0 [b])&&true)&&(cU none (tR L) (bU 0 [b])&&(cU none (tR M) (bU 0 [b])&&(cU none (tR N) (bU 0 [b])&&(cU none (tR O) (bU 0 [b])&&(cU none (tR P) (bU 0 [b])&&(cU none (tR Q) (bU 0 [b])&&(cU none (tR R) (bU 0 [b])&&(cU none (tR S) (bU 0 [b])&&(cU none (tR T) (bU 0 [b])&&true)))))))))then (bJ k (I 1)).bind λbf=>s i w g x bd bf be (q+84)else none))) (NO c h u i w y m (q+5))
def H3(c:aJ)(h:FHs)(u:Nat):Nat->dK
 |0=>λ_ _ _ _ _ _ _ _=>none
 |n+1=>GF c h u (H3 c h u n)
def NL:Z7:=λc h u a b d e f m q=>H3 c h u NN a b d e f (I 0) m (q+1)
def NK(c:aJ)(h:FHs)(u:Nat)(w:dK):dK:=λl n a f o g m q=>(aD 0 a).bind λt=>(aA false 1 t m).bind λv=>(aM prog jN v).bind λx=>(cC g x).bind λy=>aK y ((aD 0 a).bind λz=>(aA false 1 z m).bind λA=>(aR 3 A g).bind λB=>(aA true 3 B m).bind λC=>dG mV (u,q+10,16) m λb D=>aU 3 b C D λd=>(aD 0 b).bind λi=>(aA false 1 i d).bind λE=>(bY prog .add bK (.const (.string ⟨#[115,99,101,110,101,32]⟩)) (.tmp 123) (AV.sc (.string ⟨#[115,99,101,110,101,32]⟩)) E).bind λF=>(bY prog .add bK (.tmp 124) (.const (.string ⟨#[32]⟩)) F (AV.sc (.string ⟨#[32]⟩))).bind λG=>(aD 1 b).bind λH=>(aA false 1 H d).bind λe=>(aI c C4 [e] d).bind λj=>(bY prog .add bK (.tmp 125) (.tmp 128) G j.1).bind λJ=>(bY prog .add bK (.tmp 129) (.const (.string ⟨#[32]⟩)) J (AV.sc (.string ⟨#[32]⟩))).bind λK=>(aD 2 b).bind λp=>(aA false 1 p j.2).bind λk=>(aI c C4 [k] j.2).bind λr=>(bY prog .add bK (.tmp 130) (.tmp 133) K r.1).bind λL=>(cY nW [(0,1,f),(1,1,L)]).bind λM=>cQ nW [(0,2,M)] 1 2 (u,q+28,136) r.2 λN s=>cJ 2 32 (u,q+29,137) (elems s.get 2 N) o s λO P=>bif(Nat.ble 1 (bU 0 [e])&&(Nat.ble 1 (bU 0 [k])&&true))&&(cU none (tR i) (bU 0 [e])&&(cU (some d.next) (tR p) (bU 0 [e])&&(cU none (tR i) (bU 0 [k])&&true)))then (bJ g (I 1)).bind λQ=>w l n a f O Q P (q+34)else none) (NL c h u l n a f o m (q+5))
def W3(c:aJ)(h:FHs)(u:Nat):Nat->dK
 |0=>λ_ _ _ _ _ _ _ _=>none
 |n+1=>NK c h u (W3 c h u n)
def pv:Z7:=λc h u a b d e f m q=>W3 c h u NN a b d e f (I 0) m (q+1)
def NJ:Z7:=λc h u n C b D o m q=>(eF D (I 0)).bind λd=>aL d false (aD 0 b) m λg=>aL d false (aA false 1 g.1 g.2) g.2 λp=>aL d false (aM prog jN p.1) p.2 λr=>aL d false (eS r.1 (I 12)) r.2 λs=>(bX d (B true) s.1).bind λe=>aL e false (aD 1 b) s.2 λi=>aL e false (aA false 1 i.1 i.2) i.2 λt=>aL e false (aM prog mW t.1) t.2 λv=>aL e false (eS v.1 (I 40)) v.2 λj=>(bX e (B true) j.1).bind λE=>aK E (some ((B false),j.2)) ((cC o (I 0)).bind λa=>aL a false (aD 0 b) j.2 λk=>aL a false (aA false 1 k.1 k.2) k.2 λw=>aL a false (aM prog jN w.1) w.2 λx=>aL a false (aD 1 b) x.2 λl=>aL a false (aA false 1 l.1 l.2) l.2 λy=>aL a false (aM prog mW y.1) y.2 λz=>aL a false (bJ x.1 z.1) z.2 λA=>aL a false (eS A.1 (I 40)) A.2 λf=>(bX a (B true) f.1).bind λF=>aK F (some ((B true),f.2)) ((aD 4 n).bind λG=>(aA false 1 G f.2).bind λH=>(aR 2 H o).bind λJ=>(aD 0 J).bind λK=>(aA false 1 K f.2).bind λL=>pv c h u n C b L nilS f.2 (q+34)))
def NI(c:aJ)(h:FHs)(u:Nat)(z:dK):dK:=λa b d e f g m q=>(bJ g (I 1)).bind λi=>z a b d e f i m (q+3)
def pu(c:aJ)(h:FHs)(u:Nat)(z:dK):dK:=λb d e f g a m q=>(aD 4 b).bind λi=>(aA false 1 i m).bind λj=>(aR 2 j a).bind λk=>(aD 1 k).bind λl=>(aA false 1 l m).bind λn=>(eL n (I 3)).bind λo=>aK o (NI c h u z b d e f a a m (q+9)) (NI c h u z b d e f g a m (q+7))
def NQ(c:aJ)(h:FHs)(u:Nat)(z:dK):dK:=λa b d e f g m q=>(aD 4 a).bind λi=>(aA false 1 i m).bind λj=>(aM prog rP j).bind λk=>(cC g k).bind λl=>aK l (pu c h u z a b d e f g m (q+5)) (NJ c h u a b d e f m (q+5))
def W2(c:aJ)(h:FHs)(u:Nat):Nat->dK
 |0=>λ_ _ _ _ _ _ _ _=>none
 |n+1=>NQ c h u (W2 c h u n)
def pw:Z7:=λc h u a b d e f m q=>W2 c h u NN a b d e f (I 0) m (q+1)
def NP:gB:=λc h u E j F m q=>dB E (u,q,3) m λe G=>dB F (u,q+1,5) G λf H=>(aI c ZG [] H).bind λg=>(dU g.1).bind λJ=>aK J (some ((B false),g.2)) ((aA true 5 e g.2).bind λK=>(aI c R8 [K] g.2).bind λt=>(dU t.1).bind λi=>bL i false j t.2 λk=>fI i false (aI c R9 [k.1] k.2) k.2 λw=>aL i false (dU w.1) w.2 λl=>(bX i (B true) l.1).bind λb=>aL b false (aA true 2 f l.2) l.2 λn=>(bif sW b false then cQ nW [(0,2,n.1)] 1 2 (u,q+15,38) n.2 λv m=>some (v,m)else some (U,n.2)).bind λo=>fI b false (aI c R9 [o.1] o.2) o.2 λx=>aL b false (dU x.1) x.2 λa=>(bX b (B true) a.1).bind λL=>aK L (some ((B true),a.2)) ((aA true 5 e a.2).bind λp=>(aI c sC [p] a.2).bind λy=>(aI c sD [j] y.2).bind λr=>(aA true 2 f r.2).bind λM=>(aI c R7 [y.1,r.1,M] r.2).bind λd=>(cO d.1 0).bind λz=>(cO d.1 1).bind λN=>bif(Nat.ble 1 (bU 0 [p])&&true)&&(cU (some a.2.next) (tR f) (bU 0 [p])&&(cU (some a.2.next) (tR f) (bU 0 [j])&&true))then (eF N (I 0)).bind λO=>aK O (some ((B true),d.2)) ((aA true 5 e d.2).bind λP=>(aI c sC [P] d.2).bind λA=>(aI c sD [z] A.2).bind λC=>(aI c R3 [A.1,C.1] C.2).bind λs=>(cO s.1 0).bind λQ=>(cO s.1 1).bind λR=>dG rO (u,q+40,9) s.2 λD S=>aU 4 D Q S λT=>pw c h u e z D R (I (-1)) T (q+44))else none))
def vq:jI:=λc h u m q=>some ((B true),m)
def UM(c:aJ)(h:FHs)(u:Nat)(r:nV):nV:=λa b m q=>(aD 4 a).bind λd=>(aA false 1 d m).bind λe=>(aM prog rP e).bind λf=>(cC b f).bind λg=>aK g ((aD 4 a).bind λi=>(aA false 1 i m).bind λj=>(aR 2 j b).bind λk=>(aD 0 k).bind λl=>(aA false 1 l m).bind λn=>(fZ n).bind λo=>(eS o (I 20)).bind λp=>aK p (some ((B false),m)) ((bJ b (I 1)).bind λs=>r a s m (q+16))) (vq c h u m (q+5))
def Z0(c:aJ)(h:FHs)(u:Nat):Nat->nV
 |0=>λ_ _ _ _=>none
 |n+1=>UM c h u (Z0 c h u n)
def vp:cV:=λc h u a m q=>Z0 c h u NN a (I 0) m (q+1)
def UL(c:aJ)(h:FHs)(u:Nat)(s:nV):nV:=λa b m q=>(aD 3 a).bind λd=>(aA false 1 d m).bind λe=>(aM prog qA e).bind λf=>(cC b f).bind λg=>aK g ((aD 3 a).bind λi=>(aA false 1 i m).bind λj=>(aR 4 j b).bind λk=>(aD 0 k).bind λl=>(aA false 1 l m).bind λn=>(fZ n).bind λo=>(eS o (I 20)).bind λp=>aK p (some ((B false),m)) ((bJ b (I 1)).bind λr=>s a r m (q+16))) (vp c h u a m (q+5))
def Y9(c:aJ)(h:FHs)(u:Nat):Nat->nV
 |0=>λ_ _ _ _=>none
 |n+1=>UL c h u (Y9 c h u n)
def vo:cV:=λc h u a m q=>Y9 c h u NN a (I 0) m (q+1)
def UK(c:aJ)(h:FHs)(u:Nat)(w:nV):nV:=λb d m q=>(aD 2 b).bind λo=>(aA false 1 o m).bind λp=>(aM prog qB p).bind λr=>(cC d r).bind λs=>aK s ((aD 2 b).bind λt=>(aA false 1 t m).bind λv=>(aR 3 v d).bind λx=>(aD 0 x).bind λy=>(aA false 1 y m).bind λz=>(fZ z).bind λA=>(eS A (I 20)).bind λa=>aL a false (aD 2 b) m λe=>aL a false (aA false 1 e.1 e.2) e.2 λi=>bL a false d i.2 λj=>aL a false (aR 3 i.1 j.1) j.2 λk=>aL a false (aD 1 k.1) k.2 λf=>aL a false (aA false 1 f.1 f.2) f.2 λl=>aL a false (aM prog pZ l.1) l.2 λn=>aL a false (eS n.1 (I 22)) n.2 λg=>(bX a (B true) g.1).bind λC=>aK C (some ((B false),g.2)) ((bJ d (I 1)).bind λD=>w b D g.2 (q+26))) (vo c h u b m (q+5))
def Y8(c:aJ)(h:FHs)(u:Nat):Nat->nV
 |0=>λ_ _ _ _=>none
 |n+1=>UK c h u (Y8 c h u n)
def vn:cV:=λc h u a m q=>Y8 c h u NN a (I 0) m (q+1)
def UJ:cV:=λc h u p m q=>dB p (u,q,1) m λd i=>(aD 2 d).bind λr=>(aA false 1 r i).bind λs=>(aM prog qB s).bind λt=>(eS t (I 8)).bind λa=>aL a false (aD 3 d) i λe=>aL a false (aA false 1 e.1 e.2) e.2 λj=>aL a false (aM prog qA j.1) j.2 λk=>aL a false (eS k.1 (I 10)) k.2 λl=>(bX a (B true) l.1).bind λb=>aL b false (aD 4 d) l.2 λf=>aL b false (aA false 1 f.1 f.2) f.2 λn=>aL b false (aM prog rP n.1) n.2 λo=>aL b false (eS o.1 (I 12)) o.2 λg=>(bX b (B true) g.1).bind λv=>aK v (some ((B false),g.2)) (vn c h u d g.2 (q+18))
def vt:cV:=λc h u d m q=>(aM prog oN d).bind λn=>(iM n (I 20)).bind λa=>bL a false d m λe=>aL a false (aM prog oN e.1) e.2 λf=>aL a false (eS f.1 (I 40)) f.2 λg=>bL a false g.1 g.2 λb=>bL b.1 true d b.2 λi=>aL b.1 true (aM prog oN i.1) i.2 λj=>aL b.1 true (iM j.1 (I 42)) j.2 λk=>aL a false (bX b.1 k.1 (B false)) k.2 λl=>(bX a (B true) l.1).bind λo=>some (o,l.2)
def UO(c:aJ)(h:FHs)(u:Nat)(r:nV):nV:=λb d m q=>(aM prog oN b).bind λn=>(cC d n).bind λo=>aK o ((aR 2 b d).bind λp=>(aD 0 p).bind λs=>(aA false 1 s m).bind λt=>(fZ t).bind λv=>(eS v (I 20)).bind λa=>bL a false b m λg=>bL a false d g.2 λi=>aL a false (aR 2 g.1 i.1) i.2 λj=>aL a false (aD 1 j.1) j.2 λe=>aL a false (aA false 1 e.1 e.2) e.2 λk=>aL a false (fZ k.1) k.2 λl=>aL a false (eS l.1 (I 220)) l.2 λf=>(bX a (B true) f.1).bind λw=>aK w (some ((B false),f.2)) ((bJ d (I 1)).bind λx=>r b x f.2 (q+23))) (vt c h u b m (q+4))
def Z1(c:aJ)(h:FHs)(u:Nat):Nat->nV
 |0=>λ_ _ _ _=>none
 |n+1=>UO c h u (Z1 c h u n)
def vr:cV:=λc h u a m q=>Z1 c h u NN a (I 0) m (q+1)
def UN:cV:=λc h u a m q=>vr c h u a m (q+1)
def RN:bS:=λc h u a j m q=>cQ AM [] 0 4 (u,q,29) m λd e=>(aD 3 a).bind λf=>(aA false 1 f e).bind λg=>cJ 4 40 (u,q+3,32) (elems e.get 4 g) d e λn o=>cQ WG [] 0 2 (u,q+4,33) o λp i=>(aD 4 a).bind λb=>(aA false 1 b i).bind λr=>cJ 2 24 (u,q+7,36) (elems i.get 2 r) p i λs t=>(aD 3 a).bind λv=>aU 1 v n t λw=>(aD 4 a).bind λx=>aU 1 x s w λk=>bif(aW (some [],some [(u,q,29)]) (tR f)&&(aW (some [],some [(u,q,29)]) (some [],some [(u,q+4,33)])&&(aW (tR f) (some [],some [(u,q+4,33)])&&(aW (tX g,tA (u,q+3,32) d) (some [],some [(u,q+4,33)])&&(aW (some [],some [(u,q,29)]) (tR b)&&(aW (tX g,tA (u,q+3,32) d) (tR b)&&(aW (some [],some [(u,q+4,33)]) (tR b)&&true)))))))then (aA true 5 a k).bind λy=>aU 5 j y k λl=>(fO true 5 j l).bind λr0=>some (r0,l)else none
def RM(c:aJ)(h:FHs)(u:Nat)(r:hW):hW:=λa f b m q=>(aD 2 a).bind λl=>(aA false 1 l m).bind λn=>(aM prog qB n).bind λo=>(cC b o).bind λp=>aK p ((aD 2 a).bind λe=>(aA false 1 e m).bind λs=>cQ xH [] 0 3 (u,q+8,19) m λg d=>(aD 2 a).bind λi=>(aA false 1 i d).bind λt=>(aR 3 t b).bind λv=>(aD 1 v).bind λj=>(aA false 1 j d).bind λk=>cJ 3 24 (u,q+15,26) (elems d.get 3 k) g d λw x=>(aR 3 s b).bind λy=>(aD 1 y).bind λz=>aU 1 z w x λA=>bif(aW (tR e) (some [],some [(u,q+8,19)])&&(aW (some [],some [(u,q+8,19)]) (tR i)&&(aW (some [],some [(u,q+8,19)]) (tR j)&&(aW (tR e) (tX k,tA (u,q+15,26) g)&&true))))then (bJ b (I 1)).bind λB=>r a f B A (q+22)else none) (RN c h u a f m (q+5))
def Y0(c:aJ)(h:FHs)(u:Nat):Nat->hW
 |0=>λ_ _ _ _ _=>none
 |n+1=>RM c h u (Y0 c h u n)
def td:bS:=λc h u a b m q=>Y0 c h u NN a b (I 0) m (q+1)
def RL:cV:=λc h u d m q=>dB d (u,q,1) m λa e=>dG d9 (u,q+1,2) e λf g=>cQ WH [] 0 3 (u,q+2,4) g λi b=>(aD 2 a).bind λj=>(aA false 1 j b).bind λk=>cJ 3 48 (u,q+5,7) (elems b.get 3 k) i b λl n=>(aD 2 a).bind λo=>aU 1 o l n λp=>td c h u a f p (q+8)
def RO:cV:=λc h u b m q=>cQ nW [] 0 2 (u,q+1,3) m λd a=>cJ 2 32 (u,q+3,5) (elems a.get 2 b) d a λe f=>some (e,f)
def TX:gB:=λc h u f g i m q=>dB f (u,q,3) m λj e=>(aA true 5 j e).bind λk=>(aI c B0 [k,g,i] e).bind λa=>(cO a.1 0).bind λl=>(cO a.1 1).bind λn=>(cO a.1 2).bind λo=>dG gQ (u,q+12,9) a.2 λp r=>dG lE (u,q+13,10) r λb s=>aU 5 p l s λt=>aU 3 b n t λd=>(aD 1 b).bind λv=>(aA false 1 v d).bind λw=>(aD 2 b).bind λx=>(aA false 1 x d).bind λy=>some (AV.tup [w,y,o],d)
def VM:cV:=λc h u a m q=>(oV a).bind λb=>(L6 a b).bind λd=>some (d,m)
def UH:gB:=λc h u k a l m q=>dB k (u,q,3) m λn o=>dB l (u,q+1,5) o λe f=>(aA true 5 n f).bind λp=>(aA true 2 e f).bind λr=>(aI c R0 [p,a,r] f).bind λb=>(cO b.1 0).bind λs=>(cO b.1 1).bind λt=>(cO b.1 2).bind λi=>dG gQ (u,q+12,8) b.2 λv w=>dG gQ (u,q+13,9) w λx y=>aU 5 v s y λz=>aU 5 x t z λd=>(eF i (I 0)).bind λA=>aK A (some (AV.tup [nilS,i],d)) ((vM c Q0 [a] d).bind λg=>(aA true 2 e g.2).bind λB=>cQ nW [(0,2,B)] 1 2 (u,q+22,25) g.2 λC j=>cJ 2 32 (u,q+23,26) (elems j.get 2 C) g.1 j λD E=>bif(cU (some d.next) (tR e) (bU 1 [a])&&(cU (some d.next) (some [],some [(u,q+22,25)]) (bU 1 [a])&&true))then some (AV.tup [D,(I 0)],E)else none)
def TW:bS:=λc h u w x m q=>dB w (u,q,2) m λy z=>dG rO (u,q+1,4) z λd o=>(aA true 5 y o).bind λA=>(aI c qX [A,x] o).bind λa=>(cO a.1 0).bind λe=>(cO a.1 1).bind λT=>(cO a.1 2).bind λp=>(eF p (I 0)).bind λB=>aK B ((cY rO []).bind λC=>aU 4 d C a.2 λr=>(fO true 4 d r).bind λr0=>some (AV.tup [r0,p],r)) ((bZ e).bind λD=>(aD 2 D).bind λE=>(aD 1 E).bind λF=>(aD 0 F).bind λG=>(aA false 1 G a.2).bind λb=>(aI c CV [b] a.2).bind λi=>(bZ e).bind λH=>(aD 2 H).bind λJ=>(aD 1 J).bind λK=>(aD 1 K).bind λs=>(aA false 1 s i.2).bind λf=>(aI c yD [f] i.2).bind λj=>(bZ e).bind λL=>(aD 2 L).bind λM=>(aD 1 M).bind λN=>(aD 2 N).bind λk=>(aA false 1 k j.2).bind λl=>(aI c CW [l] j.2).bind λn=>(bZ e).bind λO=>(aD 2 O).bind λP=>(aD 1 P).bind λQ=>(aD 3 Q).bind λg=>(aA false 1 g n.2).bind λR=>(aI c yC [R] n.2).bind λt=>(cY rO [(0,1,i.1),(1,1,j.1),(2,1,n.1),(3,1,t.1)]).bind λS=>aU 4 d S t.2 λv=>bif(Nat.ble 1 (bU 0 [b])&&(Nat.ble 1 (bU 0 [f])&&(Nat.ble 1 (bU 0 [l])&&true)))&&(cU (some a.2.next) (tR s) (bU 0 [b])&&(cU (some a.2.next) (tR k) (bU 0 [b])&&(cU (some a.2.next) (tR k) (bU 0 [f])&&(cU (some a.2.next) (tR g) (bU 0 [b])&&(cU (some a.2.next) (tR g) (bU 0 [f])&&(cU (some a.2.next) (tR g) (bU 0 [l])&&true))))))then (fO true 4 d v).bind λr0=>some (AV.tup [r0,(I 0)],v)else none)
def VQ:bS:=λc h u a b m q=>(bY prog .add bK (.tmp 24) (.tmp 25) b a).bind λd=>some (d,m)
def HD(c:aJ)(h:FHs)(u:Nat)(r:hW):hW:=λa b d m q=>(eF a (I 0)).bind λg=>aK g ((xQ a (I 10)).bind λi=>(aI c EA [i] m).bind λe=>(bJ (I 48) e.1).bind λj=>(mM prog eB hZ j).bind λk=>cQ VY [(0,1,k)] 1 1 (u,q+9,18) e.2 λl f=>(IT prog tH bK l f).bind λn=>(bY prog .add bK (.tmp 19) (.tmp 20) n b).bind λo=>(v8 a (I 10)).bind λp=>r p o d f (q+17)) (VQ c h u b d m (q+2))
def zZ(c:aJ)(h:FHs)(u:Nat):Nat->hW
 |0=>λ_ _ _ _ _=>none
 |n+1=>HD c h u (zZ c h u n)
def xg:gB:=λc h u a b d m q=>(cC a (I 0)).bind λe=>aK e (zZ c h u NN a b (AV.sc (.string ⟨#[45]⟩)) m (q+3)) (zZ c h u NN a b d m (q+2))
def VP:cV:=λc h u a m q=>(eL a (I 0)).bind λb=>aK b (some ((AV.sc (.string ⟨#[48]⟩)),m)) (xg c h u a (AV.sc (.string ⟨#[]⟩)) (AV.sc (.string ⟨#[]⟩)) m (q+5))
def VL:gB:=λc h u b g i m q=>(iM g b).bind λa=>bL a true b m λd=>bL a true i d.2 λe=>aL a true (iM d.1 e.1) e.2 λf=>(bX a f.1 (B false)).bind λj=>some (j,f.2)
def xf:jI:=λc h u m q=>some ((B true),m)
def VO(c:aJ)(h:FHs)(u:Nat)(r:hW):hW:=λb d a m q=>(aM prog fA b).bind λe=>(cC a e).bind λf=>aK f ((aR 1 b a).bind λg=>(aA false 1 g m).bind λi=>(aR 1 d a).bind λj=>(aA false 1 j m).bind λk=>(eF i k).bind λl=>aK l (some ((B false),m)) ((bJ a (I 1)).bind λn=>r b d n m (q+16))) (xf c h u m (q+4))
def Z5(c:aJ)(h:FHs)(u:Nat):Nat->hW
 |0=>λ_ _ _ _ _=>none
 |n+1=>VO c h u (Z5 c h u n)
def xe:bS:=λc h u a b m q=>Z5 c h u NN a b (I 0) m (q+1)
def VN:bS:=λc h u a b m q=>(aM prog fA a).bind λd=>(aM prog fA b).bind λe=>(eF d e).bind λf=>aK f (some ((B false),m)) (xe c h u a b m (q+6))
def tk:cV:=λc h u a m q=>some (AV.tup [a,(I 0),(I 0)],m)
def RX(c:aJ)(h:FHs)(u:Nat)(r:cB):cB:=λd e f a m q=>(cC a f).bind λj=>aK j ((aR 2 e a).bind λk=>(aA true 2 k m).bind λl=>dG nW (u,q+4,10) m λg n=>aU 2 g l n λi=>(aA true 2 g i).bind λo=>(c h B1 [d,o] i).bind λb=>(eF b.1 (I 0)).bind λp=>aK p ((bJ a (I 1)).bind λs=>some (AV.tup [(AV.sc (.pointer none)),s,b.1],b.2)) ((bJ a (I 1)).bind λt=>r d e f t b.2 (q+15))) (tk c h u d m (q+1))
def Y1(c:aJ)(h:FHs)(u:Nat):Nat->cB
 |0=>λ_ _ _ _ _ _=>none
 |n+1=>RX c h u (Y1 c h u n)
def tj:bS:=λc h u a b m q=>(aM prog oN a).bind λd=>Y1 c h u NN b a d (I 0) m (q+3)
def RW:bS:=λc h u g b m q=>dB g (u,q,2) m λd e=>(aA true 5 d e).bind λi=>(aI c R6 [i] e).bind λa=>(eF a.1 (I 0)).bind λj=>aK j (some (AV.tup [(AV.sc (.pointer none)),(I 0),a.1],a.2)) ((aM prog oN b).bind λk=>(eS k (I 40)).bind λl=>aK l (some (AV.tup [(AV.sc (.pointer none)),(I 0),(I 8)],a.2)) ((c h DG [d] a.2).bind λf=>tj c h u b f.1 f.2 (q+14)))
def TS:bS:=λc h u d e m q=>dB d (u,q,2) m λf g=>dB e (u,q+1,3) g λi a=>(aD 0 f).bind λj=>(aA false 1 j a).bind λk=>(bZ k).bind λl=>(aD 2 l).bind λn=>(aA false 1 n a).bind λo=>(eO c CT [o,(AV.clo B7 [i])] a).bind λb=>some (b.1,b.2)
def J0:bS:=λc h u a d m q=>(aA true 4 d m).bind λe=>aU 4 a e m λb=>(fO true 4 a b).bind λr0=>some (r0,b)
def ve:pT:=λc h u d b s t m q=>(aD 1 b).bind λv=>(aA false 1 v m).bind λw=>(aM prog iI w).bind λx=>(eS x (I 0)).bind λy=>aK y ((aD 0 b).bind λz=>aU 1 z (I 2) m λA=>J0 c h u d b A (q+7)) ((aA false 1 t m).bind λe=>aL e false (aA false 1 s m) m λj=>aL e false (eL j.1 (I 0)) j.2 λk=>(bX e (B true) k.1).bind λa=>aL a false (aD 3 b) k.2 λf=>aL a false (aA false 1 f.1 f.2) f.2 λl=>aL a false (aM prog iI l.1) l.2 λn=>aL a false (aD 2 b) n.2 λg=>aL a false (aA false 1 g.1 g.2) g.2 λo=>aL a false (aM prog iI o.1) o.2 λp=>aL a false (bJ n.1 p.1) p.2 λr=>aL a false (eS r.1 (I 0)) r.2 λi=>(bX a (B true) i.1).bind λC=>aK C ((aD 0 b).bind λD=>aU 1 D (I 1) i.2 λE=>J0 c h u d b E (q+23)) (J0 c h u d b i.2 (q+21)))
def ux:fq:=λc h u a d m q=>(aD 3 a).bind λe=>(aA false 1 e m).bind λf=>cQ oM [(0,1,d)] 1 1 (u,q+3,69) m λg b=>cJ 1 16 (u,q+4,70) (elems b.get 1 g) f b λi j=>(aD 3 a).bind λk=>aU 1 k i j λl=>some l
def uw:fq:=λc h u a d m q=>(aD 2 a).bind λe=>(aA false 1 e m).bind λf=>cQ oM [(0,1,d)] 1 1 (u,q+3,77) m λg b=>cJ 1 16 (u,q+4,78) (elems b.get 1 g) f b λi j=>(aD 2 a).bind λk=>aU 1 k i j λl=>some l
def GX:fq:=λc h u b f m q=>(aA false 1 b m).bind λa=>bL a false f m λd=>aL a false (eL d.1 (I 1)) d.2 λe=>(bX a (B true) e.1).bind λg=>aU 1 b g e.2 λi=>some i
def uv:x9u:=λc h u b d f a m q=>(eL a (I 2)).bind λg=>aK g ((aD 1 b).bind λi=>(aA false 1 i m).bind λj=>cQ oM [(0,1,f)] 1 1 (u,q+5,56) m λk e=>cJ 1 16 (u,q+6,57) (elems e.get 1 k) j e λl n=>(aD 1 b).bind λo=>aU 1 o l n λp=>GX c h u d a p (q+9)) (GX c h u d a m (q+2))
def uu:fp:=λc h u g i p r s j m q=>(aA true 5 g m).bind λd=>(aA true 3 j m).bind λe=>(aA true 3 j m).bind λa=>(aI c DD [a] m).bind λb=>(aI c DN [d,e,b.1] b.2).bind λf=>(aD 0 g).bind λk=>(aA false 1 k f.2).bind λt=>(bZ t).bind λv=>(aD 2 v).bind λl=>(aA false 1 l f.2).bind λw=>(aA false 1 i f.2).bind λx=>(aR 3 w x).bind λy=>(aD 2 y).bind λn=>(aA false 1 n f.2).bind λz=>(aI c DC [f.1,z] f.2).bind λo=>(cO o.1 0).bind λA=>(cO o.1 1).bind λB=>bif(Nat.ble 1 (bU 0 [a])&&(Nat.ble 1 (bU 0 [d,e,b.1])&&true))&&(cU none (tR g) (bU 0 [a])&&(cU none (tR j) (bU 0 [a])&&(cU (some m.next) (tR k) (bU 0 [a])&&(cU (some m.next) (tR k) (bU 0 [d,e,b.1])&&(cU (some m.next) (tR l) (bU 0 [a])&&(cU (some m.next) (tR l) (bU 0 [d,e,b.1])&&(cU (some m.next) (tR i) (bU 0 [a])&&(cU (some m.next) (tR i) (bU 0 [d,e,b.1])&&(cU (some m.next) (tR n) (bU 0 [a])&&(cU (some m.next) (tR n) (bU 0 [d,e,b.1])&&true))))))))))then uv c h u p r s A o.2 (q+20)else none
def ut:GC:=λc h u d e a f b g i m q=>aK i (uw c h u a b m q) (uu c h u d e a f b g m q)
def ur:GC:=λc h u a b d e f g i m q=>(eL i (I 1)).bind λj=>ut c h u a b d e f g j m (q+2)
def uq:x9t:=λc h u d e a f b g i j m q=>aK j (ux c h u a b m q) (ur c h u d e a f b g i m q)
def vd:GC:=λc h u b d e f g i a m q=>(eL a (I 0)).bind λj=>uq c h u b d e f g i a j m (q+2)
def vc:fp:=λc h u b j k e l f m q=>(aA false 1 e m).bind λn=>(bJ n (I 1)).bind λo=>aU 1 e o m λa=>(aD 0 b).bind λp=>(aA false 1 p a).bind λr=>(bZ r).bind λs=>(aD 3 s).bind λt=>(aA false 1 t a).bind λv=>(aR 4 v f).bind λw=>(aD 0 w).bind λx=>(aA false 1 x a).bind λy=>(aA true 5 b a).bind λz=>(aI c B6 [z,f] a).bind λg=>dG lE (u,q+16,10) g.2 λd A=>aU 3 d g.1 A λi=>(aD 0 d).bind λB=>(aA false 1 B i).bind λC=>vd c h u b j k l y d C i (q+20)
def GY:fp:=λc h u a b d e f g m q=>vc c h u a b d e f g m (q+1)
def uz:xik:=λc h u e f i a b d j m q=>tV j λg caps=>(c (((u,q,0),λargs m=>bif Nat.beq args.length 1&&true then GY c h m.next e f a b d (args.getD 0 U) ⟨m.hp,m.next+1⟩ 0 else none)::h) g (.yld (u,q,0)::caps) m).bind λp=>ve c h u i a b d p.2 (q+1)
def uy:MU:=λc h u a b e f g i m q=>(aA true 5 a m).bind λj=>(aA false 1 b m).bind λk=>(aI c Q9 [j,k] m).bind λd=>uz c h u a b e f g i d.1 d.2 (q+3)
def TT:bS:=λc h u d e m q=>dB d (u,q,2) m λf g=>dB e (u,q+1,3) g λi j=>dG WI (u,q+2,4) j λk l=>dG WI (u,q+3,5) l λn o=>dG hY (u,q+4,6) o λa p=>dG HK (u,q+5,7) p λb r=>aU 1 a (I 0) r λs=>aU 1 b (B false) s λt=>uy c h u f i k n a b t (q+8)
def vi:jI:=λc h u m q=>some ((I 0),m)
def UG(c:aJ)(h:FHs)(u:Nat)(r:cB):cB:=λf g i a m q=>(cC a i).bind λn=>aK n ((aR 2 g a).bind λo=>(aA true 2 o m).bind λp=>dG WG (u,q+4,11) m λd s=>aU 2 d p s λj=>(aD 0 d).bind λt=>(aA false 1 t j).bind λv=>(eO c qY [v,(AV.clo R4 [f]),a] j).bind λe=>(aD 1 d).bind λw=>(aA false 1 w e.2).bind λx=>(aI c qV [x,(I 1),(I 3)] e.2).bind λk=>(aI c pB [k.1] k.2).bind λl=>cQ pY [(0,1,e.1),(1,1,l.1)] 2 1 (u,q+16,123) l.2 λy z=>(aI c uK [y] z).bind λb=>(eF b.1 (I 0)).bind λA=>aK A (some (b.1,b.2)) ((bJ a (I 1)).bind λB=>r f g i B b.2 (q+23))) (vi c h u m (q+1))
def Y7(c:aJ)(h:FHs)(u:Nat):Nat->cB
 |0=>λ_ _ _ _ _ _=>none
 |n+1=>UG c h u (Y7 c h u n)
def vh:cV:=λc h u a m q=>(aD 4 a).bind λd=>(aA false 1 d m).bind λb=>(aM prog rP b).bind λe=>Y7 c h u NN a b e (I 0) m (q+4)
def UD:cV:=λc h u a m q=>(aD 4 a).bind λb=>(aA false 1 b m).bind λd=>(aM prog rP d).bind λe=>(eL e (I 0)).bind λf=>aK f (some ((I 10),m)) ((aD 4 a).bind λg=>(aA false 1 g m).bind λi=>(aM prog rP i).bind λj=>(eS j (I 10)).bind λk=>aK k (some ((I 8),m)) (vh c h u a m (q+10)))
def UB(c:aJ)(h:FHs)(u:Nat)(s:cB):cB:=λg o p e m q=>(cC e p).bind λz=>aK z ((aR 4 o e).bind λA=>(aA true 4 A m).bind λC=>dG AM (u,q+4,7) m λb D=>aU 4 b C D λr=>(aD 1 b).bind λE=>(aD 0 E).bind λF=>(aA false 1 F r).bind λG=>(aI c qW [G,(I 100000000)] r).bind λa=>aL a.1 true (aD 1 b) a.2 λt=>aL a.1 true (aD 1 t.1) t.2 λi=>aL a.1 true (aA false 1 i.1 i.2) i.2 λj=>fI a.1 true (aI c qW [j.1,(I 100000000)] j.2) j.2 λv=>(bX a.1 v.1 (B false)).bind λd=>aL d true (aD 1 b) v.2 λw=>aL d true (aD 2 w.1) w.2 λk=>aL d true (aA false 1 k.1 k.2) k.2 λl=>fI d true (aI c qW [l.1,(I 100000000)] l.2) l.2 λn=>(bX d n.1 (B false)).bind λH=>(aD 0 b).bind λJ=>(aA false 1 J n.2).bind λK=>(eO c qY [K,(AV.clo C0 [g]),e] n.2).bind λx=>(aI c pB [H] x.2).bind λy=>cQ pY [(0,1,x.1),(1,1,y.1)] 2 1 (u,q+31,90) y.2 λL M=>(aI c uK [L] M).bind λf=>(eF f.1 (I 0)).bind λN=>aK N (some (f.1,f.2)) ((bJ e (I 1)).bind λO=>s g o p O f.2 (q+38))) (UD c h u g m (q+1))
def I3(c:aJ)(h:FHs)(u:Nat):Nat->cB
 |0=>λ_ _ _ _ _ _=>none
 |n+1=>UB c h u (I3 c h u n)
def vg:cV:=λc h u a m q=>(aD 3 a).bind λd=>(aA false 1 d m).bind λb=>(aM prog qA b).bind λe=>I3 c h u NN a b e (I 0) m (q+4)
def UA:cV:=λc h u a m q=>(aD 3 a).bind λb=>(aA false 1 b m).bind λd=>(aM prog qA d).bind λe=>(eS e (I 8)).bind λf=>aK f (some ((I 8),m)) (vg c h u a m (q+4))
def TZ(c:aJ)(h:FHs)(u:Nat)(w:cB):cB:=λe k l a m q=>(cC a l).bind λr=>aK r ((aR 3 k a).bind λs=>(aA true 3 s m).bind λt=>dG WH (u,q+4,4) m λb v=>aU 3 b t v λf=>(aD 0 b).bind λx=>(aA false 1 x f).bind λy=>(eO c qY [y,(AV.clo R5 [e]),a] f).bind λg=>(aD 1 b).bind λz=>(aA false 1 z g.2).bind λi=>(aI c S7 [i] g.2).bind λj=>(aD 2 b).bind λn=>(aA false 1 n j.2).bind λA=>(aI c qV [A,(I 0),(I 1000000)] j.2).bind λo=>(aI c pB [o.1] o.2).bind λp=>cQ pY [(0,1,g.1),(1,1,j.1),(2,1,p.1)] 3 1 (u,q+19,49) p.2 λB C=>(aI c uK [B] C).bind λd=>bif(Nat.ble 1 (bU 0 [i])&&true)&&(cU (some f.next) (tR n) (bU 0 [i])&&true)then (eF d.1 (I 0)).bind λD=>aK D (some (d.1,d.2)) ((bJ a (I 1)).bind λE=>w e k l E d.2 (q+26))else none) (UA c h u e m (q+1))
def Y6(c:aJ)(h:FHs)(u:Nat):Nat->cB
 |0=>λ_ _ _ _ _ _=>none
 |n+1=>TZ c h u (Y6 c h u n)
def vf:cV:=λc h u a m q=>(aD 2 a).bind λd=>(aA false 1 d m).bind λb=>(aM prog qB b).bind λe=>Y6 c h u NN a b e (I 0) m (q+4)
def TY:cV:=λc h u k m q=>dB k (u,q,1) m λd g=>(aD 0 d).bind λl=>(aA false 1 l g).bind λn=>(aI c qV [n,(I 1),(I 10000)] g).bind λi=>(dU i.1).bind λa=>aL a false (aD 1 d) i.2 λe=>aL a false (aA false 1 e.1 e.2) e.2 λf=>fI a false (aI c qV [f.1,(I 0),(I 2048)] f.2) f.2 λj=>aL a false (dU j.1) j.2 λb=>(bX a (B true) b.1).bind λo=>aK o (some ((I 2),b.2)) ((aD 2 d).bind λp=>(aA false 1 p b.2).bind λr=>(aM prog qB r).bind λs=>(eS s (I 6)).bind λt=>aK t (some ((I 8),b.2)) (vf c h u d b.2 (q+18)))
def RZ:cV:=λc h u a m q=>(cY rO []).bind λb=>(cY gQ [(0,1,a),(1,4,b)]).bind λd=>(cY yb [(0,1,a),(2,5,d)]).bind λe=>dB e (u,q+6,8) m λf g=>some (f,g)
def TP:bS:=λc h u a b m q=>dB a (u,q,2) m λd e=>dB b (u,q+1,3) e λf g=>some ((AV.clo yG [d,f]),g)
def SD:gB:=λc h u v w x m q=>dB v (u,q,3) m λy z=>dG gQ (u,q+1,6) z λa A=>dG lE (u,q+2,7) A λb p=>(aA true 5 y p).bind λB=>(aI c qX [B,w] p).bind λf=>(cO f.1 0).bind λi=>(cO f.1 1).bind λag=>(cO f.1 2).bind λr=>(eF r (I 0)).bind λC=>aK C ((cY gQ []).bind λD=>(cY lE []).bind λE=>aU 5 a D f.2 λF=>aU 3 b E F λj=>(fO true 5 a j).bind λr0=>(fO true 3 b j).bind λr1=>some (AV.tup [r0,r1,r],j)) ((bZ i).bind λG=>(aD 2 G).bind λH=>(aA true 5 H f.2).bind λJ=>(eO c wB [J,x] f.2).bind λg=>(cC g.1 (I 0)).bind λK=>aK K ((cY gQ []).bind λL=>(cY lE []).bind λM=>aU 5 a L g.2 λN=>aU 3 b M N λk=>(fO true 5 a k).bind λr0=>(fO true 3 b k).bind λr1=>some (AV.tup [r0,r1,(I 6)],k)) ((bZ i).bind λO=>(aD 2 O).bind λP=>(aA true 5 P g.2).bind λQ=>(aI c B6 [Q,g.1] g.2).bind λs=>dG lE (u,q+31,13) s.2 λd R=>aU 3 d s.1 R λe=>(aD 0 d).bind λS=>(aA false 1 S e).bind λt=>(eL t (I 0)).bind λT=>aK T ((cY gQ []).bind λU=>(aA true 3 d e).bind λV=>aU 5 a U e λW=>aU 3 b V W λl=>bif(aW (tR d) (tS a)&&true)then (fO true 5 a l).bind λr0=>(fO true 3 b l).bind λr1=>some (AV.tup [r0,r1,(I 12)],l)else none) ((eL t (I 1)).bind λX=>aK X ((cY gQ []).bind λY=>(aA true 3 d e).bind λZ=>aU 5 a Y e λaa=>aU 3 b Z aa λn=>bif(aW (tR d) (tS a)&&true)then (fO true 5 a n).bind λr0=>(fO true 3 b n).bind λr1=>some (AV.tup [r0,r1,(I 26)],n)else none) ((bZ i).bind λab=>(aD 2 ab).bind λac=>(aA true 5 ac e).bind λad=>(aA true 3 d e).bind λae=>aU 5 a ad e λaf=>aU 3 b ae af λo=>bif(aW (tR d) (tS a)&&true)then (fO true 5 a o).bind λr0=>(fO true 3 b o).bind λr1=>some (AV.tup [r0,r1,(I 0)],o)else none))))
def TV:gB:=λc h u r k s m q=>dB r (u,q,3) m λt v=>dB s (u,q+1,5) v λw x=>dG gQ (u,q+2,6) x λa y=>dG gQ (u,q+3,7) y λd l=>(aA true 5 t l).bind λz=>(c h qX [z,k] l).bind λb=>(cO b.1 0).bind λf=>(cO b.1 1).bind λS=>(cO b.1 2).bind λn=>(eF n (I 0)).bind λA=>aK A ((aA true 5 a b.2).bind λB=>(aA true 5 d b.2).bind λC=>aU 5 a B b.2 λD=>aU 5 d C D λg=>bif(aW (tR d) (tS a)&&true)then (fO true 5 a g).bind λr0=>(fO true 5 d g).bind λr1=>some (AV.tup [r0,r1,n],g)else none) ((aM prog oN k).bind λE=>(eL E (I 40)).bind λF=>aK F ((aA true 5 a b.2).bind λG=>(aA true 5 d b.2).bind λH=>aU 5 a G b.2 λJ=>aU 5 d H J λi=>bif(aW (tR d) (tS a)&&true)then (fO true 5 a i).bind λr0=>(fO true 5 d i).bind λr1=>some (AV.tup [r0,r1,(I 16)],i)else none) ((bZ f).bind λK=>(aD 2 K).bind λL=>(aA true 5 L b.2).bind λM=>aU 5 a M b.2 λo=>(aA true 2 w o).bind λN=>(c h B1 [f,N] o).bind λe=>(aA true 5 a e.2).bind λO=>(bZ f).bind λP=>(aD 2 P).bind λp=>(aA true 5 p e.2).bind λQ=>aU 5 a O e.2 λR=>aU 5 d Q R λj=>bif(aW (tR p) (tS a)&&true)then (fO true 5 a j).bind λr0=>(fO true 5 d j).bind λr1=>some (AV.tup [r0,r1,e.1],j)else none))
def RB:cV:=λc h u a m q=>(bY prog .eql oN (.tmp 3) (.const (.slice none 0 0)) a nilS).bind λd=>aK d (some (nilS,m)) (cQ nW [] 0 2 (u,q+3,5) m λe b=>cJ 2 32 (u,q+5,7) (elems b.get 2 a) e b λf g=>some (f,g))
def QZ:cV:=λc h u a m q=>(bY prog .eql jN (.tmp 3) (.const (.slice none 0 0)) a nilS).bind λd=>aK d (some (nilS,m)) (cQ mV [] 0 3 (u,q+3,5) m λe b=>cJ 3 32 (u,q+5,7) (elems b.get 3 a) e b λf g=>some (f,g))
def GQ:cV:=λc h u a m q=>(bY prog .eql mW (.tmp 3) (.const (.slice none 0 0)) a nilS).bind λd=>aK d (some (nilS,m)) (cQ pX [] 0 4 (u,q+3,5) m λe b=>cJ 4 32 (u,q+5,7) (elems b.get 4 a) e b λf g=>some (f,g))
def RA:cV:=λc h u a m q=>(bY prog .eql l9 (.tmp 3) (.const (.slice none 0 0)) a nilS).bind λd=>aK d (some (nilS,m)) (cQ vF [] 0 5 (u,q+3,5) m λe b=>cJ 5 40 (u,q+5,7) (elems b.get 5 a) e b λf g=>some (f,g))
def GP:cV:=λc h u a m q=>(bY prog .eql fA (.tmp 3) (.const (.slice none 0 0)) a nilS).bind λd=>aK d (some (nilS,m)) (cQ hY [] 0 1 (u,q+3,5) m λe b=>cJ 1 8 (u,q+5,7) (elems b.get 1 a) e b λf g=>some (f,g))
def NY:bS:=λc h u b d m q=>(aI c DR [b,d] m).bind λa=>(cO a.1 0).bind λe=>(cO a.1 1).bind λf=>(cO a.1 2).bind λg=>some (AV.tup [e,f,g],a.2)
def tz:cV:=λc h u b m q=>(bY prog .neq bK (.tmp 47) (.const (.string ⟨#[]⟩)) b (AV.sc (.string ⟨#[]⟩))).bind λa=>bL a true b m λd=>aL a true (fZ d.1) d.2 λe=>aL a true (iM e.1 (I 12)) e.2 λf=>(bX a f.1 (B false)).bind λg=>some (g,f.2)
def SH(c:aJ)(h:FHs)(u:Nat)(r:cB):cB:=λn o p g m q=>(cC g p).bind λM=>aK M ((aR 1 o g).bind λN=>(aA false 1 N m).bind λa=>(bY prog .geq hZ (.tmp 14) (.const (.int .u8 97)) a (AV.sc (.int .u8 97))).bind λk=>bL k true a m λs=>aL k true (bY prog .leq hZ (.tmp 17) (.const (.int .u8 122)) s.1 (AV.sc (.int .u8 122))) s.2 λt=>(bX k t.1 (B false)).bind λe=>bL e false a t.2 λv=>aL e false (bY prog .geq hZ (.tmp 21) (.const (.int .u8 65)) v.1 (AV.sc (.int .u8 65))) v.2 λw=>bL e false w.1 w.2 λi=>bL i.1 true a i.2 λx=>aL i.1 true (bY prog .leq hZ (.tmp 24) (.const (.int .u8 90)) x.1 (AV.sc (.int .u8 90))) x.2 λy=>aL e false (bX i.1 y.1 (B false)) y.2 λz=>(bX e (B true) z.1).bind λO=>(dU O).bind λf=>bL f true g z.2 λA=>aL f true (eL A.1 (I 0)) A.2 λC=>bL f true C.1 C.2 λb=>bL b.1 false a b.2 λD=>aL b.1 false (bY prog .neq hZ (.tmp 34) (.const (.int .u8 45)) D.1 (AV.sc (.int .u8 45))) D.2 λE=>bL b.1 false E.1 E.2 λd=>bL d.1 true a d.2 λF=>aL d.1 true (bY prog .lss hZ (.tmp 37) (.const (.int .u8 48)) F.1 (AV.sc (.int .u8 48))) F.2 λG=>bL d.1 true G.1 G.2 λj=>bL j.1 false a j.2 λH=>aL j.1 false (bY prog .gtr hZ (.tmp 40) (.const (.int .u8 57)) H.1 (AV.sc (.int .u8 57))) H.2 λJ=>aL d.1 true (bX j.1 (B true) J.1) J.2 λK=>aL b.1 false (bX d.1 K.1 (B false)) K.2 λL=>aL f true (bX b.1 (B true) L.1) L.2 λl=>(bX f l.1 (B false)).bind λP=>aK P (some ((B false),l.2)) ((bJ g (I 1)).bind λQ=>r n o p Q l.2 (q+41))) (tz c h u n m (q+1))
def I1(c:aJ)(h:FHs)(u:Nat):Nat->cB
 |0=>λ_ _ _ _ _ _=>none
 |n+1=>SH c h u (I1 c h u n)
def tw:cV:=λc h u a m q=>(mM prog bK tH a).bind λb=>(aM prog tH b).bind λd=>I1 c h u NN a b d (I 0) m (q+4)
def SG:cV:=λc h u a m q=>tw c h u a m (q+1)
def GU:MU:=λc h u a g o p r s m q=>(bZ a).bind λt=>(aD 0 t).bind λv=>(aA false 1 v m).bind λw=>(bZ w).bind λx=>(aD 4 x).bind λy=>(aA false 1 y m).bind λz=>(aR 2 z o).bind λA=>(aD 1 A).bind λB=>(aA false 1 B m).bind λC=>(cC C s).bind λD=>aK D (some ((I 24),m)) ((bY prog .eql bK (.tmp 60) (.const (.string ⟨#[102,105,120]⟩)) p (AV.sc (.string ⟨#[102,105,120]⟩))).bind λE=>aK E ((c h Q4 [a,r] m).bind λi=>some (i.1,i.2)) ((bZ a).bind λF=>(aD 2 F).bind λG=>(aA true 5 G m).bind λH=>dG gQ (u,q+19,13) m λb J=>aU 5 b H J λf=>(aD 1 g).bind λK=>(aA false 1 K f).bind λL=>(bZ a).bind λM=>(aD 1 M).bind λN=>(aA false 1 N f).bind λO=>(aM prog iI O).bind λP=>(bJ P (I 1)).bind λQ=>(c h wC [b,L,Q] f).bind λd=>(eF d.1 (I 0)).bind λR=>aK R (some (d.1,d.2)) ((bZ a).bind λS=>(aD 1 S).bind λj=>(aA false 1 j d.2).bind λT=>(aI c CX [T] d.2).bind λe=>(aD 1 g).bind λU=>(aA false 1 U e.2).bind λV=>cQ oM [(0,1,V)] 1 1 (u,q+42,90) e.2 λk l=>cJ 1 16 (u,q+43,91) (elems l.get 1 k) e.1 l λW n=>(aA true 5 b n).bind λX=>(bZ a).bind λY=>(aD 1 Y).bind λZ=>aU 1 Z W n λaa=>(bZ a).bind λab=>(aD 2 ab).bind λac=>aU 5 ac X aa λad=>bif(aW (tR j) (some [],some [(u,q+42,90)])&&(aW (some [],some [(u,q+42,90)]) (tR b)&&(aW (tX k,tA (u,q+43,91) e.1) (tR b)&&true)))then some ((I 0),ad)else none)))
def ud:MU:=λc h u e f g a i k m q=>(aI c vZ [a] m).bind λb=>(cO b.1 0).bind λl=>(cO b.1 1).bind λn=>dG vE (u,q+5,11) b.2 λj o=>aU 3 j l o λd=>aK n ((aD 0 j).bind λp=>(aA false 1 p d).bind λr=>GU c h u e f g a i r d (q+12)) (GU c h u e f g a i k d (q+9))
def SK:bS:=λc h u g i m q=>dB i (u,q,3) m λd f=>(bZ g).bind λj=>(aD 0 j).bind λk=>(aA false 1 k f).bind λl=>(bZ l).bind λn=>(aD 4 n).bind λo=>(aA false 1 o f).bind λp=>(eO c P2 [p,(AV.clo sE [d])] f).bind λa=>(cC a.1 (I 0)).bind λr=>aK r (some ((I 6),a.2)) ((aD 1 d).bind λs=>(aA false 1 s a.2).bind λt=>(aI c yF [t] a.2).bind λb=>(eF b.1 (I 0)).bind λv=>aK v (some (b.1,b.2)) ((aD 1 d).bind λw=>(aA false 1 w b.2).bind λx=>(aI c sB [x,(AV.sc (.string ⟨#[32]⟩))] b.2).bind λe=>(cO e.1 0).bind λy=>(cO e.1 1).bind λz=>(cO e.1 2).bind λA=>ud c h u g d a.1 y z (I 3) e.2 (q+31)))
def xi5:jI:=λc h u m q=>some ((I (-1)),m)
def xi4(c:aJ)(h:FHs)(u:Nat)(r:cB):cB:=λd e f a m q=>(cC a f).bind λg=>aK g ((aR 3 d a).bind λi=>(aA true 3 i m).bind λj=>(fL c h 2 e [j] m).bind λb=>aK b.1 (some (a,b.2)) ((bJ a (I 1)).bind λk=>r d e f k b.2 (q+11))) (xi5 c h u m (q+1))
def MP(c:aJ)(h:FHs)(u:Nat):Nat->cB
 |0=>λ_ _ _ _ _ _=>none
 |n+1=>xi4 c h u (MP c h u n)
def ss:bS:=λc h u a b m q=>(aM prog qB a).bind λd=>MP c h u NN a b d (I 0) m (q+3)
def QO:bS:=λc h u a b m q=>ss c h u a b m (q+1)
def TR:bS:=λc h u b d m q=>dB b (u,q,2) m λe a=>(aD 0 e).bind λf=>(aA false 1 f a).bind λg=>(aA false 1 d a).bind λi=>(bY prog .eql bK (.tmp 5) (.tmp 6) g i).bind λj=>some (j,a)
def TM:bS:=λc h u n o m q=>dB n (u,q,2) m λp r=>dG lE (u,q+1,4) r λa f=>(aA true 5 p f).bind λs=>(aI c DM [s,o] f).bind λd=>(cO d.1 0).bind λt=>(cO d.1 1).bind λg=>dG AL (u,q+8,5) d.2 λi v=>aU 4 i t v λe=>(cC g (I 0)).bind λw=>aK w ((cY lE [(0,1,(I 0))]).bind λx=>aU 3 a x e λj=>(fO true 3 a j).bind λr0=>some (r0,j)) ((aA true 4 i e).bind λy=>(aI c CK [y,g] e).bind λb=>(cO b.1 0).bind λz=>(cO b.1 1).bind λA=>(cO b.1 2).bind λB=>(eF B (I 0)).bind λC=>aK C ((cY lE [(0,1,(I 1)),(2,1,A)]).bind λD=>aU 3 a D b.2 λk=>(fO true 3 a k).bind λr0=>some (r0,k)) ((cY lE [(0,1,(I 2)),(1,1,z)]).bind λE=>aU 3 a E b.2 λl=>(fO true 3 a l).bind λr0=>some (r0,l)))
def RK:bS:=λc h u w j m q=>dB w (u,q,2) m λx k=>(aA true 5 x k).bind λy=>(aI c DB [y] k).bind λa=>(cO a.1 0).bind λl=>(cO a.1 1).bind λn=>(cO a.1 2).bind λo=>(eF o (I 0)).bind λz=>aK z (some (AV.tup [(I 0),o],a.2)) ((aI c vY [j,(I 0),(I 1000000000)] a.2).bind λf=>(dU f.1).bind λA=>aK A (some (AV.tup [(I 0),(I 2)],f.2)) ((nD (I 8192) j).bind λd=>(eS l d).bind λb=>bL b false n f.2 λp=>bL b false d p.2 λr=>aL b false (oV r.1) r.2 λs=>aL b false (cC p.1 s.1) s.2 λg=>(bX b (B true) g.1).bind λC=>aK C (some (AV.tup [(I 2),(I 0)],g.2)) ((oV d).bind λD=>(kD l D).bind λe=>bL e true n g.2 λt=>bL e true d t.2 λv=>aL e true (iM t.1 v.1) v.2 λi=>(bX e i.1 (B false)).bind λE=>aK E (some (AV.tup [(I 0),(I 0)],i.2)) (some (AV.tup [(I 1),(I 0)],i.2)))))
def TL:gB:=λc h u f g i m q=>dB f (u,q,3) m λb j=>dB g (u,q+1,4) j λk l=>dG WF (u,q+2,6) l λd a=>(aD 0 b).bind λn=>(aA false 1 n a).bind λo=>(bZ o).bind λp=>(aD 1 p).bind λr=>(aA false 1 r a).bind λs=>(aD 1 k).bind λt=>(aA false 1 t a).bind λv=>(aR 1 v i).bind λw=>(aA false 1 w a).bind λx=>(aD 0 b).bind λy=>(aA false 1 y a).bind λz=>(bZ z).bind λA=>(aD 1 A).bind λB=>(aA false 1 B a).bind λC=>(aD 0 b).bind λD=>(aA false 1 D a).bind λE=>(bZ E).bind λF=>(aD 0 F).bind λG=>(aA false 1 G a).bind λH=>(cY WF [(1,1,s),(2,1,x),(3,1,C),(4,1,H)]).bind λI=>aU 5 d I a λe=>(fO true 5 d e).bind λr0=>some (r0,e)
def RR:jI:=λc h u m q=>some ((I 0),m)
def GT(c:aJ)(h:FHs)(u:Nat)(r:nV):nV:=λb a m q=>(eS a (I 0)).bind λd=>aK d ((aD 1 b).bind λe=>(aA false 1 e m).bind λf=>(aR 1 f a).bind λg=>(aA false 1 g m).bind λi=>(eF i (I 1000000000000)).bind λj=>aK j (some (a,m)) ((eQ a (I 1)).bind λk=>r b k m (q+11))) (RR c h u m (q+2))
def I0(c:aJ)(h:FHs)(u:Nat):Nat->nV
 |0=>λ_ _ _ _=>none
 |n+1=>GT c h u (I0 c h u n)
def tf:cV:=λc h u a m q=>(aD 1 a).bind λb=>(aA false 1 b m).bind λd=>(aM prog fA d).bind λe=>(eQ e (I 1)).bind λf=>I0 c h u NN a f m (q+5)
def RQ:cV:=λc h u a m q=>dB a (u,q,1) m λb d=>tf c h u b d (q+2)
def RP:gB:=λc h u b g i m q=>(iM g b).bind λa=>bL a true b m λd=>bL a true i d.2 λe=>aL a true (iM d.1 e.1) e.2 λf=>(bX a f.1 (B false)).bind λj=>some (j,f.2)
def uh:jI:=λc h u m q=>some ((I 0),m)
def SY(c:aJ)(h:FHs)(u:Nat)(r:hW):hW:=λb d a m q=>(cC a d).bind λf=>aK f ((aR 1 b a).bind λg=>(aA false 1 g m).bind λe=>(eF e (I 0)).bind λi=>aK i (some (e,m)) ((bJ a (I 1)).bind λj=>r b d j m (q+8))) (uh c h u m (q+1))
def Y4(c:aJ)(h:FHs)(u:Nat):Nat->hW
 |0=>λ_ _ _ _ _=>none
 |n+1=>SY c h u (Y4 c h u n)
def ug:cV:=λc h u a m q=>(aM prog AN a).bind λb=>Y4 c h u NN a b (I 0) m (q+3)
def SX:cV:=λc h u a m q=>ug c h u a m (q+1)
def tn:jI:=λc h u m q=>some ((I 0),m)
def SB(c:aJ)(h:FHs)(u:Nat)(r:cB):cB:=λd e f a m q=>(cC a f).bind λg=>aK g ((fL c h 2 e [a] m).bind λb=>(bY prog .eql bK (.tmp 17) (.tmp 18) b.1 d).bind λi=>aK i (some ((I 5),b.2)) ((bJ a (I 1)).bind λj=>r d e f j b.2 (q+10))) (tn c h u m (q+1))
def Y2(c:aJ)(h:FHs)(u:Nat):Nat->cB
 |0=>λ_ _ _ _ _ _=>none
 |n+1=>SB c h u (Y2 c h u n)
def tl:gB:=λc h u a b d m q=>Y2 c h u NN a b d (I 0) m (q+2)
def SA:gB:=λc h u b d e m q=>(aI c DI [b] m).bind λa=>(dU a.1).bind λf=>aK f (some ((I 4),a.2)) (tl c h u b d e a.2 (q+4))
def UF:bS:=λc h u a b m q=>(aD 2 b).bind λd=>(aA false 1 d m).bind λe=>(aR 3 e a).bind λf=>(aD 0 f).bind λg=>(aA false 1 g m).bind λi=>some (i,m)
def xd:jI:=λc h u m q=>some ((I 0),m)
def xc(c:aJ)(h:FHs)(u:Nat)(r:cB):cB:=λa b d e m q=>(bJ e (I 1)).bind λf=>r a b d f m (q+2)
def xa(c:aJ)(h:FHs)(u:Nat)(r:cB)(s:oL):oL:=λa b d e f g i j k m q=>(bJ k (I 1)).bind λl=>s a b d e f g i j l m (q+2)
def AC(c:aJ)(h:FHs)(u:Nat)(r:cB)(s:oL):x9w:=λa b d e f g i j k l m q=>aK e (some ((I 13),m)) (xa c h u r s a b d f g i j k l m (q+1))
def wz(c:aJ)(h:FHs)(u:Nat)(r:cB)(s:oL):x9v:=λj g a z i k l n o p t m q=>(bJ z (I 1)).bind λL=>(eL g L).bind λM=>aK M ((aA true 4 a m).bind λN=>(aD 0 i).bind λO=>(aA true 2 O m).bind λP=>(aI c pE [N,P] m).bind λb=>aL b.1 false (aA true 4 i b.2) b.2 λA=>aL b.1 false (aD 2 a) A.2 λv=>aL b.1 false (aA true 2 v.1 v.2) v.2 λw=>fI b.1 false (aI c pE [A.1,w.1] w.2) w.2 λC=>(bX b.1 (B true) C.1).bind λQ=>AC c h u r s j g a Q k l n o p t C.2 (q+16)) ((eL z (I 0)).bind λf=>bL f true g m λD=>bL f true j D.2 λE=>aL f true (aM prog f9 E.1) E.2 λF=>aL f true (eQ F.1 (I 1)) F.2 λG=>aL f true (eL D.1 G.1) G.2 λd=>(bX f d.1 (B false)).bind λR=>aK R ((aA true 4 a d.2).bind λS=>(aD 2 i).bind λT=>(aA true 2 T d.2).bind λU=>(aI c pE [S,U] d.2).bind λe=>aL e.1 false (aA true 4 i e.2) e.2 λH=>aL e.1 false (aD 0 a) H.2 λx=>aL e.1 false (aA true 2 x.1 x.2) x.2 λy=>fI e.1 false (aI c pE [H.1,y.1] y.2) y.2 λJ=>(bX e.1 (B true) J.1).bind λV=>AC c h u r s j g a V k l n o p t J.2 (q+26)) ((aA true 4 a d.2).bind λW=>(aA true 4 i d.2).bind λX=>(aI c DU [W,X] d.2).bind λK=>AC c h u r s j g a K.1 k l n o p t K.2 (q+19)))
def wy(c:aJ)(h:FHs)(u:Nat)(r:cB)(s:oL):oL:=λe f g i j k b l a m q=>(aR 4 b a).bind λn=>(aA true 4 n m).bind λo=>dG rN (u,q+3,11) m λd p=>aU 4 d o p λt=>wz c h u r s e f g a d i j k b l a t (q+7)
def VF(c:aJ)(h:FHs)(u:Nat)(r:cB)(s:oL):oL:=λa i j b d e k f g m q=>(cC g f).bind λl=>aK l (wy c h u r s a i j b d e k f g m (q+1)) (xc c h u r a b d e m (q+1))
def I4(c:aJ)(h:FHs)(u:Nat)(r:cB):Nat->oL
 |0=>λ_ _ _ _ _ _ _ _ _ _ _=>none
 |n+1=>VF c h u r (I4 c h u r n)
def wx(c:aJ)(h:FHs)(u:Nat)(r:cB):cB:=λb d g a m q=>(aR 4 d a).bind λi=>(aA true 4 i m).bind λj=>dG rN (u,q+3,9) m λe k=>aU 4 e j k λl=>(eK prog f9 b none (some a)).bind λf=>(aM prog f9 f).bind λn=>I4 c h u r NN b a e d g a f n (I 0) l (q+11)
def VE(c:aJ)(h:FHs)(u:Nat)(r:cB):cB:=λd e a b m q=>(cC b a).bind λf=>aK f (wx c h u r d e a b m (q+1)) (xd c h u m (q+1))
def I5(c:aJ)(h:FHs)(u:Nat):Nat->cB
 |0=>λ_ _ _ _ _ _=>none
 |n+1=>VE c h u (I5 c h u n)
def ww:cV:=λc h u a m q=>(aM prog f9 a).bind λb=>I5 c h u NN a a b (I 0) m (q+3)
def VI:cV:=λc h u b m q=>(aI c C3 [b,(I 1)] m).bind λa=>ww c h u a.1 a.2 (q+3)
def VH(c:aJ)(h:FHs)(u:Nat)(w:dS):dS:=λg e i j f m q=>(cC f j).bind λn=>aK n ((aR 3 i f).bind λo=>(aA true 3 o m).bind λp=>dG xH (u,q+3,5) m λd r=>aU 3 d p r λk=>(aA true 3 d k).bind λs=>(aI c S6 [s] k).bind λa=>(eF a.1 (I 0)).bind λt=>aK t (some (a.1,a.2)) ((aA true 3 d a.2).bind λv=>(aI c JV [v] a.2).bind λb=>(xR prog AO e b.1 false b.2).bind λx=>aK x (some ((I 28),b.2)) ((aA true 3 d b.2).bind λy=>(aI c JV [y] b.2).bind λl=>tW prog AO e l.1 (B true) l.2 λz=>(bJ f (I 1)).bind λA=>w g e i j A z (q+20)))) (VI c h u g m (q+1))
def Z4(c:aJ)(h:FHs)(u:Nat):Nat->dS
 |0=>λ_ _ _ _ _ _ _=>none
 |n+1=>VH c h u (Z4 c h u n)
def xb:bS:=λc h u a b m q=>(aM prog pZ a).bind λd=>Z4 c h u NN a b a d (I 0) m (q+3)
def VG:cV:=λc h u a m q=>(aM prog pZ a).bind λb=>(cC b (I 3)).bind λd=>aK d (some ((I 10),m)) ((aM prog pZ a).bind λe=>(eS e (I 20)).bind λf=>aK f (some ((I 8),m)) (BM (u,q+9,21) m λg i=>xb c h u a g i (q+11)))
def tg:cV:=λc h u a m q=>(dU a).bind λb=>aK b (some ((I 2),m)) (some ((I 0),m))
def GS:bS:=λc h u d a m q=>(oV a).bind λe=>(aI c qV [d,e,a] m).bind λb=>some (b.1,b.2)
def UE:bS:=λc h u a b m q=>(aD 3 b).bind λd=>(aA false 1 d m).bind λe=>(aR 4 e a).bind λf=>(aD 0 f).bind λg=>(aA false 1 g m).bind λi=>some (i,m)
def UC:bS:=λc h u a b m q=>(aD 4 b).bind λd=>(aA false 1 d m).bind λe=>(aR 2 e a).bind λf=>(aD 0 f).bind λg=>(aA false 1 g m).bind λi=>some (i,m)
def TO(c:aJ)(h:FHs)(u:Nat)(r:dK):dK:=λi j k l n d m q=>(cC d n).bind λt=>aK t ((aR 4 l d).bind λv=>(aA true 4 v m).bind λw=>dG AM (u,q+4,5) m λo x=>aU 4 o w x λa=>(aD 0 j).bind λy=>(aA false 1 y a).bind λz=>(bZ z).bind λA=>(aD 2 A).bind λC=>(aA false 1 C a).bind λD=>(aA false 1 k a).bind λE=>(aR 3 D E).bind λF=>(aD 1 F).bind λG=>(aA false 1 G a).bind λH=>(aD 1 o).bind λJ=>(aA true 3 J a).bind λK=>(aI c DZ [H,K] a).bind λe=>(cO e.1 0).bind λb=>(cO e.1 1).bind λN=>bL b true i e.2 λp=>bL b true d p.2 λf=>fI b true (fL c h 2 p.1 [f.1] f.2) f.2 λs=>aL b true (dU s.1) s.2 λg=>(bX b g.1 (B false)).bind λL=>aK L (some (AV.tup [],g.2)) ((bJ d (I 1)).bind λM=>r i j k l n M g.2 (q+33))) ((some (AV.tup [],m)))
def Y5(c:aJ)(h:FHs)(u:Nat):Nat->dK
 |0=>λ_ _ _ _ _ _ _ _=>none
 |n+1=>TO c h u (Y5 c h u n)
def TN:gB:=λc h u d a e m q=>(aD 0 a).bind λf=>(aA false 1 f m).bind λg=>(bZ g).bind λi=>(aD 3 i).bind λj=>(aA false 1 j m).bind λb=>(aM prog qA b).bind λk=>Y5 c h u NN d a e b k (I 0) m (q+7)
def VD:bS:=λc h u b l m q=>dB l (u,q,3) m λd g=>(aI c S7 [b] g).bind λe=>(aA true 3 d e.2).bind λn=>(aI c S6 [n] e.2).bind λi=>cQ pY [(0,1,e.1),(1,1,i.1)] 2 1 (u,q+7,11) i.2 λo p=>(aI c DW [o] p).bind λa=>bif(cU (some g.next) (tR d) (bU 0 [b])&&true)then (eF a.1 (I 0)).bind λr=>aK r (some (AV.tup [(B false),a.1],a.2)) ((aI c C3 [b,(I 1)] a.2).bind λf=>(aA true 3 d f.2).bind λs=>(aI c JV [s] f.2).bind λj=>(aI c DV [f.1,j.1] j.2).bind λk=>bif(cU (some a.2.next) (tR d) (bU 0 [b,(I 1)])&&true)then some (AV.tup [k.1,(I 0)],k.2)else none)else none
def TK:bS:=λc h u d e m q=>dB d (u,q,2) m λf g=>dB e (u,q+1,3) g λi a=>(aD 0 f).bind λj=>(aA false 1 j a).bind λk=>(bZ k).bind λl=>(aD 3 l).bind λn=>(aA false 1 n a).bind λo=>(eO c CR [o,(AV.clo B5 [i])] a).bind λb=>some (b.1,b.2)
def OA:bS:=λc h u b d m q=>(aI c z6 [b,d] m).bind λa=>(kD a.1 (I 0)).bind λe=>some (e,a.2)
def UR:bS:=λc h u b d m q=>(aI c C1 [b,d] m).bind λa=>(kD a.1 (I 0)).bind λe=>aK e ((eK prog bK b none (some a.1)).bind λf=>(fZ d).bind λg=>(bJ a.1 g).bind λi=>(eK prog bK b (some i) none).bind λj=>some (AV.tup [f,j,(B true)],a.2)) (some (AV.tup [b,(AV.sc (.string ⟨#[]⟩)),(B false)],a.2))
def xiz:jI:=λc h u m q=>some ((I (-1)),m)
def xiy(c:aJ)(h:FHs)(u:Nat)(r:cB):cB:=λd e f a m q=>(cC a f).bind λg=>aK g ((aR 2 d a).bind λi=>(aA true 2 i m).bind λj=>(fL c h 2 e [j] m).bind λb=>aK b.1 (some (a,b.2)) ((bJ a (I 1)).bind λk=>r d e f k b.2 (q+11))) (xiz c h u m (q+1))
def MM(c:aJ)(h:FHs)(u:Nat):Nat->cB
 |0=>λ_ _ _ _ _ _=>none
 |n+1=>xiy c h u (MM c h u n)
def sp:bS:=λc h u a b m q=>(aM prog rP a).bind λd=>MM c h u NN a b d (I 0) m (q+3)
def QL:bS:=λc h u a b m q=>sp c h u a b m (q+1)
def SL:bS:=λc h u b d m q=>dB b (u,q,2) m λe a=>(aD 0 e).bind λf=>(aA false 1 f a).bind λg=>(aD 0 d).bind λi=>(aA false 1 i a).bind λj=>(bY prog .eql bK (.tmp 5) (.tmp 7) g j).bind λk=>some (k,a)
def TE:cV:=λc h u d m q=>(aI c sB [d,(AV.sc (.string ⟨#[32]⟩))] m).bind λa=>(cO a.1 0).bind λj=>(cO a.1 1).bind λz=>(cO a.1 2).bind λo=>(aI c vZ [j] a.2).bind λe=>(cO e.1 0).bind λp=>(cO e.1 1).bind λr=>dG vE (u,q+15,6) e.2 λs t=>aU 3 s p t λk=>(fZ d).bind λv=>(eS v (I 200)).bind λw=>aK w (some ((I 8),k)) ((aI c N3 [d,(AV.sc (.string ⟨#[10]⟩))] k).bind λb=>bL b.1 false o b.2 λl=>aL b.1 false (dU l.1) l.2 λf=>(bX b.1 (B true) f.1).bind λx=>aK x (some ((I 7),f.2)) ((dU r).bind λg=>bL g true j f.2 λn=>aL g true (bY prog .neq bK (.tmp 34) (.const (.string ⟨#[102,105,120]⟩)) n.1 (AV.sc (.string ⟨#[102,105,120]⟩))) n.2 λi=>(bX g i.1 (B false)).bind λy=>aK y (some ((I 15),i.2)) (some ((I 0),i.2))))
def Z9:gB:=λc h u b d a m q=>cQ oM [(0,1,(AV.sc (.string ⟨#[]⟩)))] 1 1 (u,q+3,106) m λe f=>cJ 1 16 (u,q+4,107) (elems f.get 1 e) d f λi g=>(aA true 5 a g).bind λj=>(bZ b).bind λk=>(aD 1 k).bind λl=>aU 1 l i g λn=>(bZ b).bind λo=>(aD 2 o).bind λp=>aU 5 p j n λr=>bif(aW (some [],some [(u,q+3,106)]) (tR a)&&(aW (tX e,tA (u,q+4,107) d) (tR a)&&true))then some ((I 0),r)else none
def SP(c:aJ)(h:FHs)(u:Nat)(r:gI):gI:=λa b d e f g i m q=>(bJ i (I 1)).bind λj=>r a b d e f g j m (q+2)
def uf(c:aJ)(h:FHs)(u:Nat)(r:gI):gI:=λj e k f g l a m q=>(aR 1 g a).bind λt=>(aA false 1 t m).bind λn=>(bY prog .eql bK (.tmp 87) (.const (.string ⟨#[]⟩)) n (AV.sc (.string ⟨#[]⟩))).bind λb=>bL b true a m λo=>bL b true e o.2 λp=>aL b true (eQ p.1 (I 1)) p.2 λs=>aL b true (eF o.1 s.1) s.2 λi=>(bX b i.1 (B false)).bind λv=>aK v (SP c h u r j e k f g l a i.2 (q+13)) ((bJ a (I 1)).bind λw=>(c h wC [f,n,w] i.2).bind λd=>(eF d.1 (I 0)).bind λx=>aK x (some (d.1,d.2)) (SP c h u r j e k f g l a d.2 (q+20)))
def SO(c:aJ)(h:FHs)(u:Nat)(r:gI):gI:=λa g b d i e f m q=>(cC f e).bind λj=>aK j (uf c h u r a g b d i e f m (q+1)) (Z9 c h u a b d m (q+1))
def zY(c:aJ)(h:FHs)(u:Nat):Nat->gI
 |0=>λ_ _ _ _ _ _ _ _ _=>none
 |n+1=>SO c h u (zY c h u n)
def ue:pT:=λc h u b d a e m q=>(aM prog iI a).bind λf=>zY c h u NN b d a e a f (I 0) m (q+3)
def SN:bS:=λc h u a A m q=>(aI c sB [A,(AV.sc (.string ⟨#[32]⟩))] m).bind λd=>(cO d.1 0).bind λC=>(cO d.1 1).bind λe=>(cO d.1 2).bind λD=>(aI c yE [C] d.2).bind λj=>(cO j.1 0).bind λf=>(cO j.1 1).bind λE=>(dU D).bind λk=>bL k false E j.2 λs=>aL k false (dU s.1) s.2 λt=>(bX k (B true) t.1).bind λl=>bL l false e t.2 λv=>aL l false (bY prog .eql bK (.tmp 34) (.const (.string ⟨#[]⟩)) v.1 (AV.sc (.string ⟨#[]⟩))) v.2 λg=>(bX l (B true) g.1).bind λF=>aK F (some ((I 7),g.2)) ((bZ a).bind λG=>(aD 1 G).bind λH=>(aA false 1 H g.2).bind λJ=>(aM prog iI J).bind λK=>(aI c qV [f,(I 1),K] g.2).bind λb=>(dU b.1).bind λL=>aK L (some ((I 6),b.2)) ((bZ a).bind λM=>(aD 1 M).bind λN=>(aA false 1 N b.2).bind λO=>(eQ f (I 1)).bind λP=>(aR 1 O P).bind λQ=>(aA false 1 Q b.2).bind λR=>(bY prog .eql bK (.tmp 54) (.const (.string ⟨#[]⟩)) R (AV.sc (.string ⟨#[]⟩))).bind λn=>bL n false e b.2 λo=>fI n false (aI c N2 [o.1,(AV.sc (.string ⟨#[102,105,120,32]⟩))] o.2) o.2 λw=>(bX n (B true) w.1).bind λp=>bL p false e w.2 λx=>aL p false (bY prog .eql bK (.tmp 61) (.const (.string ⟨#[102,105,120]⟩)) x.1 (AV.sc (.string ⟨#[102,105,120]⟩))) x.2 λi=>(bX p (B true) i.1).bind λS=>aK S (some ((I 15),i.2)) ((bZ a).bind λT=>(aD 1 T).bind λU=>(aA false 1 U i.2).bind λV=>(tZ c P9 [V] i.2).bind λr=>(eQ f (I 1)).bind λW=>(aR 1 r.1 W).bind λX=>aU 1 X e r.2 λy=>(bZ a).bind λY=>(aD 0 Y).bind λZ=>(aA false 1 Z y).bind λaa=>(cY rO []).bind λab=>(cY gQ [(0,1,aa),(1,4,ab)]).bind λac=>dG gQ (u,q+73,11) y λz ad=>aU 5 z ac ad λae=>ue c h u a f r.1 z ae (q+75))))
def TQ:gB:=λc h u p l r m q=>(aI c yF [l] m).bind λb=>(eF b.1 (I 0)).bind λs=>aK s (some (b.1,b.2)) ((aI c sB [l,(AV.sc (.string ⟨#[32]⟩))] b.2).bind λd=>(cO d.1 0).bind λt=>(cO d.1 1).bind λv=>(cO d.1 2).bind λL=>(aI c vZ [t] d.2).bind λg=>(cO g.1 0).bind λw=>(cO g.1 1).bind λx=>dG vE (u,q+20,11) g.2 λi y=>aU 3 i w y λn=>(dU x).bind λz=>aK z (some ((I 15),n)) ((aI c N1 [v,(AV.sc (.string ⟨#[32]⟩))] n).bind λa=>(aM prog iI a.1).bind λA=>(aD 1 i).bind λC=>(aA false 1 C a.2).bind λD=>(eF A D).bind λj=>bL j false a.1 a.2 λk=>fI j false (aI c P6 [k.1,(AV.sc (.string ⟨#[]⟩))] k.2) k.2 λe=>(bX j (B true) e.1).bind λE=>aK E (some ((I 7),e.2)) ((aD 2 i).bind λF=>(aA false 1 F e.2).bind λG=>(fL c h 2 G [a.1] e.2).bind λf=>(cO f.1 0).bind λH=>(cO f.1 1).bind λJ=>(dU J).bind λK=>aK K (some ((I 7),f.2)) ((U0 prog c h 2 H "swath/office.do" [p,r] f.2).bind λo=>some (o.1,o.2)))))
def RC:cV:=λc h u a m q=>(aM prog iI a).bind λb=>(aM prog iI a).bind λd=>(nC prog iI a none b d).bind λe=>some (e,m)
def um:gB:=λc h u a d e m q=>(aA true 4 d m).bind λf=>aU 4 a f m λb=>(fO true 4 a b).bind λr0=>some (AV.tup [r0,e],b)
def AA(c:aJ)(h:FHs)(u:Nat)(r:gI):gI:=λa b d e f g i m q=>(bJ i (I 1)).bind λj=>r a b d e f g j m (q+2)
def ul(c:aJ)(h:FHs)(u:Nat)(r:gI):gI:=λf n a g i o j m q=>(aR 4 i j).bind λF=>(aA true 4 F m).bind λG=>dG pX (u,q+2,9) m λb H=>aU 4 b G H λd=>(aD 0 b).bind λJ=>(aA false 1 J d).bind λK=>(eF K f).bind λL=>aK L (AA c h u r f n a g i o j d (q+8)) ((aD 0 a).bind λM=>(aD 1 M).bind λN=>(aA false 1 N d).bind λO=>(aD 1 b).bind λP=>(aA false 1 P d).bind λQ=>(aD 2 b).bind λR=>(aA false 1 R d).bind λS=>(cY xG [(0,1,Q),(1,1,S)]).bind λT=>cQ xG [(0,2,T)] 1 2 (u,q+16,35) d λU x=>cJ 2 16 (u,q+17,36) (elems x.get 2 U) O x λV W=>(aD 0 a).bind λX=>(aD 1 X).bind λY=>aU 1 Y V W λp=>(aD 2 a).bind λs=>(aA false 1 s p).bind λt=>(aD 3 b).bind λy=>(aA false 1 y p).bind λZ=>cQ hY [(0,1,Z)] 1 1 (u,q+25,43) p λv z=>cJ 1 8 (u,q+26,44) (elems z.get 1 v) t z λaa A=>(aD 3 a).bind λk=>(aA false 1 k A).bind λab=>cQ hY [(0,1,(I 1))] 1 1 (u,q+29,47) A λac C=>cJ 1 8 (u,q+30,48) (elems C.get 1 ac) ab C λad ae=>(aD 2 a).bind λaf=>aU 1 af aa ae λag=>(aD 3 a).bind λah=>aU 1 ah ad ag λai=>bif(aW (tR s) (some [],some [(u,q+25,43)])&&(aW (some [],some [(u,q+25,43)]) (tR k)&&(aW (tX v,tA (u,q+26,44) t) (tR k)&&(aW (tR s) (some [],some [(u,q+29,47)])&&(aW (tR y) (some [],some [(u,q+29,47)])&&(aW (some [],some [(u,q+25,43)]) (some [],some [(u,q+29,47)])&&(aW (tX v,tA (u,q+26,44) t) (some [],some [(u,q+29,47)])&&(aW (tR k) (some [],some [(u,q+29,47)])&&true))))))))then (cC g (I 0)).bind λe=>aL e false (aD 1 b) ai λw=>aL e false (aA false 1 w.1 w.2) w.2 λD=>bL e false g D.2 λE=>aL e false (cC D.1 E.1) E.2 λl=>(bX e (B true) l.1).bind λaj=>aK aj ((aD 1 b).bind λak=>(aA false 1 ak l.2).bind λal=>AA c h u r f n a al i o j l.2 (q+46)) (AA c h u r f n a g i o j l.2 (q+43))else none)
def TG(c:aJ)(h:FHs)(u:Nat)(r:gI):gI:=λg a b d i e f m q=>(cC f e).bind λj=>aK j (ul c h u r g a b d i e f m (q+1)) (um c h u a b d m (q+1))
def I2(c:aJ)(h:FHs)(u:Nat):Nat->gI
 |0=>λ_ _ _ _ _ _ _ _ _=>none
 |n+1=>TG c h u (I2 c h u n)
def uk:Z7:=λc h u b d e f g m q=>(aD 1 d).bind λi=>(aD 1 i).bind λj=>(aA false 1 j m).bind λa=>(aM prog mW a).bind λk=>I2 c h u NN b e f g a k (I 0) m (q+5)
def TF:bS:=λc h u e f m q=>dB e (u,q,2) m λa g=>dG AL (u,q+1,4) g λi b=>(aD 1 a).bind λj=>(aD 0 j).bind λk=>(aA false 1 k b).bind λl=>(cY yd [(0,1,l)]).bind λn=>(cY AL [(0,2,n)]).bind λo=>dG AL (u,q+8,6) b λd p=>aU 4 d o p λr=>uk c h u f a i d (I (-1)) r (q+11)
def rm:cV:=λc h u a m q=>some (AV.tup [a,nilS,(I 0)],m)
def GK(c:aJ)(h:FHs)(u:Nat)(r:gI):gI:=λa b d e f g i m q=>(bJ i (I 1)).bind λj=>r a b d e f g j m (q+2)
def rl(c:aJ)(h:FHs)(u:Nat)(r:gI):gI:=λa e b g f i d m q=>(aR 1 f d).bind λl=>(aA false 1 l m).bind λn=>(aR 1 b d).bind λo=>(aA false 1 o m).bind λp=>(aR 1 b a).bind λs=>(aA false 1 s m).bind λt=>(eL p t).bind λv=>aK v ((aR 1 e a).bind λw=>(aA false 1 w m).bind λx=>(eQ n x).bind λy=>cQ hY [(0,1,y)] 1 1 (u,q+21,83) m λz j=>cJ 1 8 (u,q+22,84) (elems j.get 1 z) g j λA B=>GK c h u r a e b A f i d B (q+24)) (cQ hY [(0,1,(I 1000000000000))] 1 1 (u,q+15,86) m λC k=>cJ 1 8 (u,q+16,87) (elems k.get 1 C) g k λD E=>GK c h u r a e b D f i d E (q+18))
def PL(c:aJ)(h:FHs)(u:Nat)(r:gI):gI:=λe f g a i b d m q=>(cC d b).bind λj=>aK j (rl c h u r e f g a i b d m (q+1)) (rm c h u a m (q+1))
def X5(c:aJ)(h:FHs)(u:Nat):Nat->gI
 |0=>λ_ _ _ _ _ _ _ _ _=>none
 |n+1=>PL c h u (X5 c h u n)
def rk:pT:=λc h u b a d e m q=>(aM prog fA a).bind λf=>X5 c h u NN b a d e a f (I 0) m (q+3)
def rj:pT:=λc h u i j a d m q=>(aM prog fA d).bind λk=>(eS k (I 0)).bind λl=>aK l (some (AV.tup [nilS,d,(I 26)],m)) ((aA true 2 a m).bind λe=>(aD 2 j).bind λn=>(aA false 1 n m).bind λf=>(aI c z8 [e,f] m).bind λb=>(aA true 2 a b.2).bind λo=>(aI c O4 [o,(I (-1))] b.2).bind λg=>bif(cU (some m.next) (tR a) (bU 0 [e,f])&&true)then rk c h u i b.1 g.1 nilS g.2 (q+12)else none)
def GJ(c:aJ)(h:FHs)(u:Nat)(s:gI):gI:=λa b d e f g i m q=>(bJ i (I 1)).bind λj=>s a b d e f g j m (q+2)
def ri(c:aJ)(h:FHs)(u:Nat)(s:gI):gI:=λd e f g b i a m q=>(aR 1 b a).bind λk=>(aA false 1 k m).bind λl=>(eF l (I 0)).bind λn=>aK n (cQ hY [(0,1,a)] 1 1 (u,q+9,47) m λo j=>cJ 1 8 (u,q+10,48) (elems j.get 1 o) g j λp r=>GJ c h u s d e f p b i a r (q+12)) (GJ c h u s d e f g b i a m (q+7))
def PK(c:aJ)(h:FHs)(u:Nat)(s:gI):gI:=λa b d e i f g m q=>(cC g f).bind λj=>aK j (ri c h u s a b d e i f g m (q+1)) (rj c h u a b d e m (q+1))
def X4(c:aJ)(h:FHs)(u:Nat):Nat->gI
 |0=>λ_ _ _ _ _ _ _ _ _=>none
 |n+1=>PK c h u (X4 c h u n)
def rh:pT:=λc h u e b d f m q=>(aA true 2 d m).bind λg=>(aD 2 b).bind λi=>(aA false 1 i m).bind λj=>(aI c N8 [g,j] m).bind λa=>(aM prog fA a.1).bind λk=>X4 c h u NN e b d f a.1 k (I 0) a.2 (q+6)
def PM:bS:=λc h u j f m q=>dB j (u,q,2) m λb g=>(aA true 4 b g).bind λk=>(aI c CL [k] g).bind λa=>(eF a.1 (I 0)).bind λl=>aK l (some (AV.tup [nilS,nilS,a.1],a.2)) ((aD 0 b).bind λn=>(aA true 2 n a.2).bind λo=>(cY WA [(0,2,o)]).bind λp=>dG WA (u,q+12,8) a.2 λd r=>aU 2 d p r λi=>(aD 0 d).bind λs=>(aD 0 s).bind λt=>(aA false 1 t i).bind λv=>(aM prog jN v).bind λw=>(eQ w (I 1)).bind λx=>(aI c uI [f,(I 0),x] i).bind λe=>(dU e.1).bind λy=>aK y (some (AV.tup [nilS,nilS,(I 6)],e.2)) (rh c h u f b d nilS e.2 (q+23)))
def tc:cV:=λc h u a m q=>(aD 2 a).bind λe=>(aA false 1 e m).bind λf=>(aD 0 a).bind λg=>(aA false 1 g m).bind λi=>(eQ f i).bind λb=>(aD 1 a).bind λj=>(aA false 1 j m).bind λk=>(aD 3 a).bind λl=>(aA false 1 l m).bind λn=>(bJ k n).bind λd=>(aD 4 a).bind λo=>(aA false 1 o m).bind λp=>(oV p).bind λr=>(bJ b d).bind λs=>(nD r s).bind λt=>(aD 4 a).bind λv=>(aA false 1 v m).bind λw=>(oV w).bind λx=>(eQ b d).bind λy=>(nD x y).bind λz=>some (AV.tup [t,z,(I 0)],m)
def GR:bS:=λc h u a b m q=>aK b (some (AV.tup [(I 0),(I 0),(I 2)],m)) (tc c h u a m q)
def sy:cV:=λc h u a m q=>(aD 0 a).bind λv=>(aA false 1 v m).bind λw=>(aI c Q3 [w,(I 100000000)] m).bind λl=>(dU l.1).bind λb=>aL b false (aD 2 a) l.2 λg=>aL b false (aA false 1 g.1 g.2) g.2 λi=>fI b false (aI c Q3 [i.1,(I 100000000)] i.2) i.2 λn=>aL b false (dU n.1) n.2 λe=>(bX b (B true) e.1).bind λo=>aK o (GR c h u a o e.2 (q+11)) ((aD 1 a).bind λx=>(aA false 1 x e.2).bind λy=>(aI c vY [y,(I 0),(I 2048)] e.2).bind λp=>(dU p.1).bind λd=>aL d false (aD 3 a) p.2 λj=>aL d false (aA false 1 j.1 j.2) j.2 λk=>fI d false (aI c vY [k.1,(I 0),(I 2048)] k.2) k.2 λr=>aL d false (dU r.1) r.2 λf=>(bX d (B true) f.1).bind λs=>aK s (GR c h u a s f.2 (q+22)) ((aD 4 a).bind λz=>(aA false 1 z f.2).bind λA=>(aI c vY [A,(I 1),(I 10000)] f.2).bind λt=>(dU t.1).bind λC=>GR c h u a C t.2 (q+27)))
def RJ:cV:=λc h u a m q=>dB a (u,q,1) m λb d=>sy c h u b d (q+4)
def RH:gB:=λc h u b g i m q=>(iM g b).bind λa=>bL a true b m λd=>bL a true i d.2 λe=>aL a true (iM d.1 e.1) e.2 λf=>(bX a f.1 (B false)).bind λj=>some (j,f.2)
def VA:cV:=λc h u e m q=>dB e (u,q,1) m λb a=>(aD 0 b).bind λf=>(aA false 1 f a).bind λg=>(aD 1 b).bind λi=>(aA false 1 i a).bind λj=>(aD 2 b).bind λk=>(aA false 1 k a).bind λl=>cQ hY [(0,1,g),(1,1,j),(2,1,l)] 3 1 (u,q+8,9) a λn o=>(aI c DY [(I (-100000000)),(I 100000000),n] o).bind λd=>(dU d.1).bind λp=>aK p (some ((I 2),d.2)) (some ((I 0),d.2))
def vy:cV:=λc h u a m q=>some (a,m)
def UU(c:aJ)(h:FHs)(u:Nat)(r:dK):dK:=λe a i j k d m q=>(cC d k).bind λo=>aK o ((aR 3 j d).bind λp=>(aA true 3 p m).bind λs=>dG xH (u,q+4,7) m λf t=>aU 3 f s t λl=>(bJ d (I 1)).bind λv=>(aM prog pZ e).bind λw=>(xQ v w).bind λx=>(aR 3 e x).bind λy=>(aA true 3 y l).bind λz=>dG xH (u,q+15,8) l λg A=>aU 3 g z A λb=>(aD 0 f).bind λB=>(aA false 1 B b).bind λC=>(nD a C).bind λD=>(aD 1 f).bind λE=>(aA false 1 E b).bind λF=>(nD a F).bind λG=>(cY HJ [(0,1,D),(1,1,G)]).bind λH=>(aD 0 g).bind λJ=>(aA false 1 J b).bind λK=>(nD a K).bind λL=>(aD 1 g).bind λM=>(aA false 1 M b).bind λN=>(nD a N).bind λO=>(cY HJ [(0,1,L),(1,1,O)]).bind λP=>(cY rN [(0,2,H),(2,2,P)]).bind λQ=>cQ rN [(0,4,Q)] 1 4 (u,q+37,44) b λR n=>cJ 4 32 (u,q+38,45) (elems n.get 4 R) i n λS T=>(bJ d (I 1)).bind λU=>r e a S j k U T (q+42)) (vy c h u i m (q+1))
def Z2(c:aJ)(h:FHs)(u:Nat):Nat->dK
 |0=>λ_ _ _ _ _ _ _ _=>none
 |n+1=>UU c h u (Z2 c h u n)
def vw:gB:=λc h u a b d m q=>(aM prog pZ a).bind λe=>Z2 c h u NN a b d a e (I 0) m (q+3)
def UT:bS:=λc h u a b m q=>vw c h u a b nilS m (q+2)
def UX:bS:=λc h u t v m q=>dB t (u,q,2) m λi w=>dB v (u,q+1,3) w λf e=>(aA true 4 i e).bind λx=>(aA true 2 f e).bind λy=>(aI c uL [x,y] e).bind λo=>(eL o.1 (I 0)).bind λa=>aL a true (aD 0 i) o.2 λj=>aL a true (aA true 2 j.1 j.2) j.2 λb=>aL a true (aA true 2 f b.2) b.2 λd=>fI a true (aI c DX [b.1,d.1] d.2) d.2 λp=>aL a true (aD 2 i) p.2 λg=>aL a true (aA true 2 g.1 g.2) g.2 λk=>aL a true (aA true 2 f k.2) k.2 λl=>fI a true (aI c DX [k.1,l.1] l.2) l.2 λn=>fI a true (aI c xc0 [p.1,n.1] n.2) n.2 λr=>aL a true (iM r.1 (I 0)) r.2 λs=>(bX a s.1 (B false)).bind λz=>bif(Nat.ble 1 (bU 0 [b.1,d.1])&&true)&&(cU (some e.next) (tR g.1) (bU 0 [b.1,d.1])&&(cU (some e.next) (tR f) (bU 0 [b.1,d.1])&&true))then some (z,s.2)else none
def UW:bS:=λc h u N O m q=>dB N (u,q,2) m λb P=>dB O (u,q+1,3) P λd r=>(aA true 4 b r).bind λQ=>(aD 0 d).bind λR=>(aA true 2 R r).bind λS=>(aI c pE [Q,S] r).bind λf=>aL f.1 false (aA true 4 b f.2) f.2 λG=>aL f.1 false (aD 2 d) G.2 λs=>aL f.1 false (aA true 2 s.1 s.2) s.2 λt=>fI f.1 false (aI c pE [G.1,t.1] t.2) t.2 λv=>(bX f.1 (B true) v.1).bind λi=>aL i false (aA true 4 d v.2) v.2 λH=>aL i false (aD 0 b) H.2 λw=>aL i false (aA true 2 w.1 w.2) w.2 λx=>fI i false (aI c pE [H.1,x.1] x.2) x.2 λy=>(bX i (B true) y.1).bind λj=>aL j false (aA true 4 d y.2) y.2 λI=>aL j false (aD 2 b) I.2 λz=>aL j false (aA true 2 z.1 z.2) z.2 λA=>fI j false (aI c pE [I.1,A.1] A.2) A.2 λe=>(bX j (B true) e.1).bind λT=>aK T (some ((B true),e.2)) ((aA true 4 b e.2).bind λl=>(aD 0 d).bind λU=>(aA true 2 U e.2).bind λn=>(aI c uL [l,n] e.2).bind λo=>(aA true 4 b o.2).bind λV=>(aD 2 d).bind λJ=>(aA true 2 J o.2).bind λW=>(aI c uL [V,W] o.2).bind λC=>(eF o.1 C.1).bind λa=>aL a true (aA true 4 d C.2) C.2 λk=>aL a true (aD 0 b) k.2 λD=>aL a true (aA true 2 D.1 D.2) D.2 λg=>fI a true (aI c uL [k.1,g.1] g.2) g.2 λE=>aL a true (aA true 4 d E.2) E.2 λK=>aL a true (aD 2 b) K.2 λp=>aL a true (aA true 2 p.1 p.2) p.2 λF=>fI a true (aI c uL [K.1,F.1] F.2) F.2 λL=>aL a true (eF E.1 L.1) L.2 λM=>(bX a M.1 (B false)).bind λX=>bif(Nat.ble 1 (bU 0 [l,n])&&(Nat.ble 1 (bU 0 [k.1,g.1])&&true))&&(cU (some e.2.next) (tR b) (bU 0 [l,n])&&(cU (some e.2.next) (tR J) (bU 0 [l,n])&&(cU (some e.2.next) (tR d) (bU 0 [k.1,g.1])&&(cU (some e.2.next) (tR p.1) (bU 0 [k.1,g.1])&&true))))then some (X,M.2)else none)
def wq:jI:=λc h u m q=>some ((I 0),m)
def wo(c:aJ)(h:FHs)(u:Nat)(r:hW):hW:=λb d a m q=>(cC a d).bind λf=>aK f ((aR 1 b a).bind λg=>(aA false 1 g m).bind λe=>(eF e (I 0)).bind λi=>aK i (some (e,m)) ((bJ a (I 1)).bind λj=>r b d j m (q+8))) (wq c h u m (q+1))
def GB(c:aJ)(h:FHs)(u:Nat):Nat->hW
 |0=>λ_ _ _ _ _=>none
 |n+1=>wo c h u (GB c h u n)
def wn:cV:=λc h u a m q=>(aM prog AN a).bind λb=>GB c h u NN a b (I 0) m (q+3)
def UZ:cV:=λc h u a m q=>wn c h u a m (q+1)
def wk:cV:=λc h u a m q=>some (a,m)
def AB(c:aJ)(h:FHs)(u:Nat)(r:dS):dS:=λa b d e f m q=>(bJ f (I 1)).bind λg=>r a b d e g m (q+2)
def HB(c:aJ)(h:FHs)(u:Nat)(r:dS):gI:=λa d i j e f g m q=>(aA true 4 i m).bind λk=>(aA true 2 a m).bind λl=>(aI c uL [k,l] m).bind λb=>(eL b.1 j).bind λn=>aK n ((dU d).bind λo=>AB c h u r a o e f g b.2 (q+8)) (AB c h u r a d e f g b.2 (q+5))
def wj(c:aJ)(h:FHs)(u:Nat)(r:dS):gI:=λb d a i e f g m q=>(aD 2 a).bind λj=>(tY 2 1 j (I 1)).bind λk=>(aA false 1 k m).bind λl=>(aD 0 a).bind λn=>(tY 2 1 n (I 1)).bind λo=>(aA false 1 o m).bind λp=>(cC l p).bind λs=>aK s (HB c h u r b d a (I (-1)) e f g m (q+8)) (HB c h u r b d a i e f g m (q+7))
def wh(c:aJ)(h:FHs)(u:Nat)(r:dS):dK:=λa b d e f g m q=>wj c h u r a b d (I 1) e f g m (q+1)
def wg(c:aJ)(h:FHs)(u:Nat)(r:dS):dS:=λa b d e f m q=>AB c h u r a b d e f m q
def wd(c:aJ)(h:FHs)(u:Nat)(r:dS):gI:=λa b g d e f i m q=>aK i (wh c h u r a b g d e f m q) (wg c h u r a b d e f m q)
def wb(c:aJ)(h:FHs)(u:Nat)(r:dS):dS:=λd i f j g m q=>(aR 4 f g).bind λk=>(aA true 4 k m).bind λl=>dG rN (u,q+2,7) m λb n=>aU 4 b l n λe=>(aA true 4 b e).bind λo=>(aA true 2 d e).bind λp=>(aI c pE [o,p] e).bind λa=>aK a.1 (some ((B true),a.2)) ((aD 0 b).bind λs=>(tY 2 1 s (I 1)).bind λt=>(aA false 1 t a.2).bind λv=>(tY 2 1 d (I 1)).bind λw=>(aA false 1 w a.2).bind λx=>(eS v x).bind λy=>(aD 2 b).bind λz=>(tY 2 1 z (I 1)).bind λA=>(aA false 1 A a.2).bind λC=>(tY 2 1 d (I 1)).bind λD=>(aA false 1 D a.2).bind λE=>(eS C E).bind λF=>(bY prog .neq xI (.tmp 23) (.tmp 29) y F).bind λG=>wd c h u r d i b f j g G a.2 (q+20))
def UY(c:aJ)(h:FHs)(u:Nat)(r:dS):dS:=λe a f b d m q=>(cC d b).bind λg=>aK g (wb c h u r e a f b d m (q+1)) (wk c h u a m (q+1))
def xC(c:aJ)(h:FHs)(u:Nat):Nat->dS
 |0=>λ_ _ _ _ _ _ _=>none
 |n+1=>UY c h u (xC c h u n)
def vz:gB:=λc h u a b d m q=>(aM prog f9 a).bind λe=>xC c h u NN b d a e (I 0) m (q+3)
def HC:bS:=λc h u a b m q=>dB b (u,q,3) m λd e=>vz c h u a d (B false) e (q+3)
def xix:jI:=λc h u m q=>some ((I (-1)),m)
def xiw(c:aJ)(h:FHs)(u:Nat)(r:cB):cB:=λd e f a m q=>(cC a f).bind λg=>aK g ((aR 4 d a).bind λi=>(aA true 4 i m).bind λj=>(fL c h 2 e [j] m).bind λb=>aK b.1 (some (a,b.2)) ((bJ a (I 1)).bind λk=>r d e f k b.2 (q+11))) (xix c h u m (q+1))
def ML(c:aJ)(h:FHs)(u:Nat):Nat->cB
 |0=>λ_ _ _ _ _ _=>none
 |n+1=>xiw c h u (ML c h u n)
def sn:bS:=λc h u a b m q=>(aM prog qA a).bind λd=>ML c h u NN a b d (I 0) m (q+3)
def QK:bS:=λc h u a b m q=>sn c h u a b m (q+1)
def TJ:bS:=λc h u b d m q=>dB b (u,q,2) m λe a=>(aD 0 e).bind λf=>(aA false 1 f a).bind λg=>(aA false 1 d a).bind λi=>(bY prog .eql bK (.tmp 5) (.tmp 6) g i).bind λj=>some (j,a)
def NW:bS:=λc h u b d m q=>(aI c C1 [b,d] m).bind λa=>some (a.1,a.2)
def UQ:bS:=λc h u b d m q=>(aI c yH [b,d] m).bind λa=>some (a.1,a.2)
def xi9:jI:=λc h u m q=>some ((I (-1)),m)
def vu(c:aJ)(h:FHs)(u:Nat)(r:d4):d4:=λe i j Q w f x R m q=>(bJ f (I 1)).bind λS=>(kJ prog bK e S).bind λT=>(bY prog .eql hZ (.tmp 81) (.tmp 82) T w).bind λa=>bL a true e m λy=>bL a true f y.2 λz=>bL a true f z.2 λA=>bL a true j A.2 λC=>aL a true (bJ A.1 C.1) C.2 λD=>aL a true (eK prog bK y.1 (some z.1) (some D.1)) D.2 λE=>bL a true i E.2 λF=>aL a true (bY prog .eql bK (.tmp 90) (.tmp 91) E.1 F.1) F.2 λk=>(bX a k.1 (B false)).bind λU=>aK U (some (f,k.2)) ((bJ f (I 1)).bind λb=>(bJ R (I 1)).bind λs=>(aA false 1 (AV.sc (.pointer (some ⟨0,0,none⟩))) k.2).bind λV=>(iM j V).bind λg=>bL g true s k.2 λG=>bL g true b G.2 λt=>fI g true (aI c xwu [t.1] t.2) t.2 λH=>aL g true (eS G.1 H.1) H.2 λl=>(bX g l.1 (B false)).bind λW=>aK W ((eK prog bK e (some b) none).bind λX=>(aI c xcz [X,i] l.2).bind λn=>(kD n.1 (I 0)).bind λY=>aK Y ((bJ n.1 b).bind λZ=>some (Z,n.2)) (some ((I (-1)),n.2))) ((aA false 1 (AV.sc (.pointer (some ⟨0,0,none⟩))) l.2).bind λaa=>(eS j aa).bind λd=>bL d true s l.2 λJ=>bL d true b J.2 λK=>aL d true (bY prog .shr eB (.tmp 123) (.const (.int .u64 4)) K.1 (AV.sc (.int .u64 4))) K.2 λL=>aL d true (bJ (I 4) L.1) L.2 λM=>aL d true (kD J.1 M.1) M.2 λN=>(bX d N.1 (B false)).bind λo=>bL o true b N.2 λO=>bL o true x O.2 λP=>aL o true (cC O.1 P.1) P.2 λv=>(bX o v.1 (B false)).bind λab=>aK ab ((eK prog bK e (some b) none).bind λac=>(aI c xwt [ac,i] v.2).bind λp=>(cC p.1 (I 0)).bind λad=>aK ad (some ((I (-1)),p.2)) ((bJ b p.1).bind λae=>some (ae,p.2))) (r e i j Q w b x s v.2 (q+46))))
def xi8(c:aJ)(h:FHs)(u:Nat)(r:d4):d4:=λa g i b j d f k m q=>(kJ prog bK a d).bind λl=>(bY prog .neq hZ (.tmp 62) (.tmp 63) l b).bind λn=>aK n ((bJ d (I 1)).bind λo=>(eK prog bK a (some o) (some f)).bind λp=>(aI c S0 [p,b] m).bind λe=>(cC e.1 (I 0)).bind λs=>aK s (some ((I (-1)),e.2)) ((bJ e.1 (I 1)).bind λt=>(bJ d t).bind λv=>vu c h u r a g i b j v f k e.2 (q+20))) (vu c h u r a g i b j d f k m (q+5))
def xi7(c:aJ)(h:FHs)(u:Nat)(r:d4):d4:=λd e f g i a b j m q=>(cC a b).bind λk=>aK k (xi8 c h u r d e f g i a b j m (q+3)) (xi9 c h u m (q+3))
def fj(c:aJ)(h:FHs)(u:Nat):Nat->d4
 |0=>λ_ _ _ _ _ _ _ _ _ _=>none
 |n+1=>xi7 c h u (fj c h u n)
def GZ:bS:=λc h u a b m q=>(fZ b).bind λd=>(eL d (I 0)).bind λf=>bL f false b m λj=>bL f false a j.2 λk=>aL f false (bY prog .eql bK (.tmp 20) (.tmp 21) j.1 k.1) k.2 λe=>(bX f (B true) e.1).bind λr=>aK r (some ((I 0),e.2)) ((eL d (I 1)).bind λs=>aK s ((kJ prog bK b (I 0)).bind λt=>(aI c S0 [a,t] e.2).bind λl=>some (l.1,l.2)) ((fZ a).bind λv=>(kD d v).bind λw=>aK w (some ((I (-1)),e.2)) ((aA false 1 (AV.sc (.pointer (some ⟨0,0,none⟩))) e.2).bind λx=>(iM d x).bind λg=>bL g true a e.2 λn=>aL g true (fZ n.1) n.2 λo=>aL g true (iM o.1 (I 64)) o.2 λi=>(bX g i.1 (B false)).bind λy=>aK y ((aI c xcz [a,b] i.2).bind λp=>some (p.1,p.2)) ((kJ prog bK b (I 0)).bind λz=>(kJ prog bK b (I 1)).bind λA=>(fZ a).bind λC=>(eQ C d).bind λD=>(bJ D (I 1)).bind λE=>fj c h u NN a b d z A (I 0) E (I 0) i.2 (q+43)))))
def SW:cV:=λc h u d m q=>(aR 1 d (I 0)).bind λe=>(aA false 1 e m).bind λf=>(cY mV [(0,1,f)]).bind λg=>(cY AG [(0,3,g)]).bind λi=>dG AG (u,q+7,4) m λa j=>aU 3 a i j λk=>(eK prog iI d (some (I 1)) none).bind λl=>(aD 0 a).bind λn=>(aD 1 n).bind λo=>(aD 0 a).bind λp=>(aD 2 p).bind λr=>cQ d8 [(0,1,o),(1,1,r)] 2 1 (u,q+15,17) k λs t=>(c h qZ [l,s] t).bind λb=>(aA true 3 a b.2).bind λv=>(nY prog HM v).bind λw=>some (AV.tup [w,b.1],b.2)
def uc:jI:=λc h u m q=>some ((B true),m)
def SJ(c:aJ)(h:FHs)(u:Nat)(r:cB):cB:=λd e f a m q=>(cC a f).bind λg=>aK g ((aR 1 e a).bind λi=>(aA false 1 i m).bind λj=>(aR 1 d a).bind λk=>(aA false 1 k m).bind λl=>(aI c yE [l] m).bind λb=>(cO b.1 0).bind λn=>(cO b.1 1).bind λo=>(dU o).bind λp=>aK p (some ((B false),b.2)) ((bZ j).bind λs=>aU 1 s n b.2 λt=>(bJ a (I 1)).bind λv=>r d e f v t (q+24))) (uc c h u m (q+1))
def Y3(c:aJ)(h:FHs)(u:Nat):Nat->cB
 |0=>λ_ _ _ _ _ _=>none
 |n+1=>SJ c h u (Y3 c h u n)
def ub:bS:=λc h u b a m q=>(aM prog yg a).bind λd=>Y3 c h u NN b a d (I 0) m (q+3)
def SI:bS:=λc h u a b m q=>ub c h u a b m (q+1)
def SV:cV:=λc h u a m q=>(aR 1 a (I 0)).bind λe=>(aA false 1 e m).bind λi=>(aR 1 a (I 1)).bind λf=>(aA false 1 f m).bind λj=>(aR 1 a (I 2)).bind λg=>(aA false 1 g m).bind λk=>(cY AH [(0,1,i),(1,1,j),(2,1,k)]).bind λl=>dG AH (u,q+12,4) m λb n=>aU 4 b l n λo=>bif(aW (tR e) (some [],some [(u,q+12,4)])&&(aW (tR f) (some [],some [(u,q+12,4)])&&(aW (tR g) (some [],some [(u,q+12,4)])&&true)))then (eK prog iI a (some (I 3)) none).bind λp=>(aD 3 b).bind λr=>cQ d8 [(0,1,r)] 1 1 (u,q+17,19) o λs t=>(c h qZ [p,s] t).bind λd=>(aA true 4 b d.2).bind λv=>(nY prog HN v).bind λw=>some (AV.tup [w,d.1],d.2)else none
def SU:cV:=λc h u d m q=>(aR 1 d (I 0)).bind λe=>(aA false 1 e m).bind λf=>(cY AK [(0,1,f)]).bind λg=>dG AK (u,q+6,4) m λa i=>aU 2 a g i λj=>(eK prog iI d (some (I 1)) none).bind λk=>(aD 1 a).bind λl=>cQ d8 [(0,1,l)] 1 1 (u,q+11,13) j λn o=>(c h qZ [k,n] o).bind λb=>(aA true 2 a b.2).bind λp=>(nY prog HQ p).bind λr=>some (AV.tup [r,b.1],b.2)
def ST:cV:=λc h u b m q=>(aR 1 b (I 0)).bind λe=>(aA false 1 e m).bind λg=>(aR 1 b (I 1)).bind λf=>(aA false 1 f m).bind λi=>(cY AJ [(0,1,g),(1,1,i)]).bind λj=>dG AJ (u,q+9,4) m λa k=>aU 4 a j k λl=>bif(aW (tR e) (some [],some [(u,q+9,4)])&&(aW (tR f) (some [],some [(u,q+9,4)])&&true))then (eK prog iI b (some (I 2)) none).bind λn=>(aD 2 a).bind λo=>(aD 3 a).bind λp=>cQ d8 [(0,1,o),(1,1,p)] 2 1 (u,q+15,17) l λr s=>(c h qZ [n,r] s).bind λd=>(aA true 4 a d.2).bind λt=>(nY prog HO t).bind λv=>some (AV.tup [v,d.1],d.2)else none
def SS:cV:=λc h u a m q=>(aR 1 a (I 0)).bind λb=>(aA false 1 b m).bind λd=>(nY prog WL d).bind λe=>some (AV.tup [e,(B true)],m)
def SQ:cV:=λc h u a m q=>(aR 1 a (I 0)).bind λb=>(aA false 1 b m).bind λd=>(nY prog WN d).bind λe=>some (AV.tup [e,(B true)],m)
def RY:cV:=λc h u d m q=>(aI c N4 [d] m).bind λe=>(cO e.1 0).bind λi=>(cO e.1 1).bind λr=>(bY prog .eql WP (.tmp 12) (.const .nilIface) r (AV.sc .nilIface)).bind λa=>bL a true i e.2 λf=>fI a true (aI c CE [f.1] f.2) f.2 λj=>bL a true d j.2 λk=>aL a true (bY prog .eql bK (.tmp 16) (.tmp 17) j.1 k.1) k.2 λl=>(bX a l.1 (B false)).bind λb=>bL b true d l.2 λg=>fI b true (aI c CC [g.1,(AV.sc (.string ⟨#[45]⟩))] g.2) g.2 λn=>aL b true (fZ n.1) n.2 λo=>aL b true (iM o.1 (I 9)) o.2 λp=>(bX b p.1 (B false)).bind λs=>some (AV.tup [i,s],p.2)
def NX:bS:=λc h u b d m q=>(aI c C2 [b,d] m).bind λa=>some (a.1,a.2)
def QY:cV:=λc h u a m q=>(bY prog .eql iI (.tmp 3) (.const (.slice none 0 0)) a nilS).bind λd=>aK d (some (nilS,m)) (cQ oM [] 0 1 (u,q+3,5) m λe b=>cJ 1 16 (u,q+5,7) (elems b.get 1 a) e b λf g=>some (f,g))
def NV:bS:=λc h u b d m q=>(aI c CB [b,d,(I 0),(I (-1))] m).bind λa=>some (a.1,a.2)
def QS:bS:=λc h u b d m q=>(aI c CP [b,d] m).bind λa=>(kD a.1 (I 0)).bind λe=>some (e,a.2)
def PP:cV:=λc h u p m q=>dB p (u,q,1) m λa j=>(aD 0 a).bind λr=>(aA true 2 r j).bind λs=>(aI c CF [s] j).bind λb=>(eF b.1 (I 0)).bind λt=>aK t (some (b.1,b.2)) ((aD 0 a).bind λv=>(aD 1 v).bind λw=>(aA false 1 w b.2).bind λx=>(aM prog l8 x).bind λk=>(aD 2 a).bind λy=>(aA false 1 y b.2).bind λz=>(aM prog fA z).bind λA=>(eF A k).bind λd=>aL d false (aD 3 a) b.2 λg=>aL d false (aA false 1 g.1 g.2) g.2 λl=>aL d false (aM prog fA l.1) l.2 λn=>bL d false k n.2 λo=>aL d false (eF n.1 o.1) o.2 λe=>(bX d (B true) e.1).bind λC=>aK C (some ((I 10),e.2)) ((aD 2 a).bind λD=>(aA false 1 D e.2).bind λE=>(aI c A9 [E,(AV.clo O8 [])] e.2).bind λf=>aK f.1 (some ((I 2),f.2)) ((aD 3 a).bind λF=>(aA false 1 F f.2).bind λG=>(aI c A9 [G,(AV.clo O7 [])] f.2).bind λi=>aK i.1 (some ((I 2),i.2)) (some ((I 0),i.2)))))
def OB:gB:=λc h u b g i m q=>(iM g b).bind λa=>bL a true b m λd=>bL a true i d.2 λe=>aL a true (iM d.1 e.1) e.2 λf=>(bX a f.1 (B false)).bind λj=>some (j,f.2)
def qp:cV:=λc h u a m q=>some (a,m)
def OU(c:aJ)(h:FHs)(u:Nat)(r:dK):dK:=λf d g i j b m q=>(cC b j).bind λl=>aK l ((aR 2 i b).bind λn=>(aA true 2 n m).bind λo=>dG xG (u,q+4,8) m λe p=>aU 2 e o p λa=>(aR 1 f b).bind λs=>(aA false 1 s a).bind λt=>(aD 1 e).bind λv=>(aA false 1 v a).bind λw=>(aR 1 d w).bind λx=>(aA false 1 x a).bind λy=>(eQ t y).bind λz=>(aD 0 e).bind λA=>(aA false 1 A a).bind λB=>(aR 1 d B).bind λC=>(aA false 1 C a).bind λD=>(bJ z D).bind λE=>cQ hY [(0,1,E)] 1 1 (u,q+24,38) a λF k=>cJ 1 8 (u,q+25,39) (elems k.get 1 F) g k λG H=>(bJ b (I 1)).bind λJ=>r f d G i j J H (q+29)) (qp c h u g m (q+1))
def W9(c:aJ)(h:FHs)(u:Nat):Nat->dK
 |0=>λ_ _ _ _ _ _ _ _=>none
 |n+1=>OU c h u (W9 c h u n)
def qo:pT:=λc h u b d e f m q=>(aD 0 d).bind λg=>(aD 1 g).bind λi=>(aA false 1 i m).bind λa=>(aM prog l8 a).bind λj=>W9 c h u NN b e f a j (I 0) m (q+5)
def OT:bS:=λc h u f a m q=>dB f (u,q,2) m λb d=>(aA true 2 b d).bind λg=>(aI c z8 [g,a] d).bind λe=>qo c h u a b e.1 nilS e.2 (q+7)
def qn:cV:=λc h u a m q=>(aA false 1 a m).bind λb=>some (b,m)
def GG(c:aJ)(h:FHs)(u:Nat)(r:dS):dS:=λa b d e f m q=>(bJ f (I 1)).bind λg=>r a b d e g m (q+2)
def qk(c:aJ)(h:FHs)(u:Nat)(r:dS):dS:=λe b d f a m q=>(aA false 1 b m).bind λg=>(aR 1 g a).bind λi=>(aA false 1 i m).bind λj=>(dU j).bind λk=>aK k ((aA false 1 d m).bind λl=>(fL c h 2 l [a] m).bind λn=>GG c h u r e b d f a n.2 (q+10)) (GG c h u r e b d f a m (q+7))
def OP(c:aJ)(h:FHs)(u:Nat)(r:dS):dS:=λa e f b d m q=>(cC d b).bind λg=>aK g (qk c h u r a e f b d m (q+1)) (qn c h u a m (q+1))
def W8(c:aJ)(h:FHs)(u:Nat):Nat->dS
 |0=>λ_ _ _ _ _ _ _=>none
 |n+1=>OP c h u (W8 c h u n)
def qj:gB:=λc h u a b d m q=>(aA false 1 a m).bind λe=>(aM prog fA e).bind λf=>W8 c h u NN a b d f (I 0) m (q+3)
def OO:bS:=λc h u r s m q=>dB r (u,q,2) m λd t=>dB s (u,q+1,3) t λv i=>(aD 0 d).bind λw=>(aD 0 w).bind λe=>(aA false 1 e i).bind λx=>(aM prog jN x).bind λj=>rW hY 1 8 j j (u,q+7,14) i λy k=>(aD 0 d).bind λz=>(aD 0 z).bind λa=>(aA false 1 a k).bind λA=>(aM prog jN A).bind λl=>rW HK 1 1 l l (u,q+12,19) k λB C=>dG WB (u,q+13,5) C λb D=>dG xx (u,q+14,6) D λf E=>aU 1 b y E λF=>aU 1 f B F λn=>bif(aW (some [],some [(u,q+7,14)]) (tR a)&&(aW (tR e) (some [],some [(u,q+12,19)])&&(aW (some [],some [(u,q+7,14)]) (some [],some [(u,q+12,19)])&&(aW (tR e) (some [],some [(u,q+13,5)])&&(aW (some [],some [(u,q+7,14)]) (some [],some [(u,q+13,5)])&&(aW (tR a) (some [],some [(u,q+13,5)])&&(aW (some [],some [(u,q+12,19)]) (some [],some [(u,q+13,5)])&&(aW (tR e) (some [],some [(u,q+14,6)])&&(aW (some [],some [(u,q+7,14)]) (some [],some [(u,q+14,6)])&&(aW (tR a) (some [],some [(u,q+14,6)])&&(aW (some [],some [(u,q+12,19)]) (some [],some [(u,q+14,6)])&&(aW (some [],some [(u,q+13,5)]) (some [],some [(u,q+14,6)])&&(aW (tR a) (tS b)&&(aW (some [],some [(u,q+12,19)]) (tS b)&&true))))))))))))))then (aA true 2 d n).bind λG=>(aI c O0 [G] n).bind λo=>dG WB (u,q+19,7) o.2 λp H=>aU 1 p o.1 H λI=>dG WD (u,q+21,8) I λg J=>aU 1 g (AV.clo vX [f,d,p,b,v,g]) J λK=>qj c h u b f g K (q+24)else none
def qx:cV:=λc h u a m q=>some (a,m)
def GI(c:aJ)(h:FHs)(u:Nat)(r:dS):dS:=λa b d e f m q=>(bJ f (I 1)).bind λg=>r a b d e g m (q+2)
def qw(c:aJ)(h:FHs)(u:Nat)(r:dS):dS:=λb d e g a m q=>(aR 2 e a).bind λj=>(aA true 2 j m).bind λk=>dG xG (u,q+3,7) m λi l=>aU 2 i k l λf=>(eF a b).bind λn=>aK n ((aA true 2 i f).bind λo=>(c h N5 [d,o] f).bind λp=>GI c h u r b d e g a p.2 (q+12)) (GI c h u r b d e g a f (q+9))
def PB(c:aJ)(h:FHs)(u:Nat)(r:dS):dS:=λe a f b d m q=>(cC d b).bind λg=>aK g (qw c h u r e a f b d m (q+1)) (qx c h u a m (q+1))
def X3(c:aJ)(h:FHs)(u:Nat):Nat->dS
 |0=>λ_ _ _ _ _ _ _=>none
 |n+1=>PB c h u (X3 c h u n)
def qv:gB:=λc h u b d e m q=>(aD 0 d).bind λf=>(aD 1 f).bind λg=>(aA false 1 g m).bind λa=>(aM prog l8 a).bind λi=>X3 c h u NN b e a i (I 0) m (q+5)
def PA:bS:=λc h u e f m q=>dB e (u,q,2) m λa b=>(aD 0 a).bind λg=>(aD 0 g).bind λi=>(aA false 1 i b).bind λj=>(aM prog jN j).bind λk=>(vM c z7 [k] b).bind λd=>qv c h u f a d.1 d.2 (q+8)
def RI:bS:=λc h u d a m q=>(oV a).bind λe=>(aI c vY [d,e,a] m).bind λb=>some (b.1,b.2)
def wu:jI:=λc h u m q=>some ((B true),m)
def VC(c:aJ)(h:FHs)(u:Nat)(r:dS):dS:=λd e f g a m q=>(cC a g).bind λi=>aK i ((aR 1 f a).bind λj=>(aA false 1 j m).bind λk=>(aI c DT [k,d,e] m).bind λb=>(dU b.1).bind λl=>aK l (some ((B false),b.2)) ((bJ a (I 1)).bind λn=>r d e f g n b.2 (q+11))) (wu c h u m (q+1))
def Z3(c:aJ)(h:FHs)(u:Nat):Nat->dS
 |0=>λ_ _ _ _ _ _ _=>none
 |n+1=>VC c h u (Z3 c h u n)
def wr:gB:=λc h u b d a m q=>(aM prog fA a).bind λe=>Z3 c h u NN b d a e (I 0) m (q+3)
def VB:gB:=λc h u a b d m q=>wr c h u a b d m (q+1)
def UV:bS:=λc h u l n m q=>dB l (u,q,2) m λg o=>dB n (u,q+1,3) o λi a=>(aD 2 g).bind λp=>(aA true 2 p a).bind λd=>(aD 0 g).bind λr=>(aA true 2 r a).bind λe=>(aI c DX [d,e] a).bind λf=>(aA true 2 i f.2).bind λs=>(aD 0 g).bind λj=>(aA true 2 j f.2).bind λt=>(aI c DX [s,t] f.2).bind λk=>(aI c xc1 [f.1,k.1] k.2).bind λb=>bif(Nat.ble 1 (bU 0 [d,e])&&true)&&(cU (some a.next) (tR i) (bU 0 [d,e])&&(cU (some a.next) (tR j) (bU 0 [d,e])&&true))then (eS b.1 (I 0)).bind λv=>aK v (some ((I 1),b.2)) ((cC b.1 (I 0)).bind λw=>aK w (some ((I (-1)),b.2)) (some ((I 0),b.2)))else none
def NU:bS:=λc h u b d m q=>(aI c DQ [b,d] m).bind λa=>some (a.1,a.2)
def HA:bS:=λc h u d b m q=>(fZ d).bind λl=>(fZ b).bind λn=>(kD l n).bind λa=>bL a true d m λe=>bL a true b e.2 λf=>aL a true (fZ f.1) f.2 λg=>aL a true (eK prog bK e.1 none (some g.1)) g.2 λi=>bL a true b i.2 λj=>aL a true (bY prog .eql bK (.tmp 14) (.tmp 15) i.1 j.1) j.2 λk=>(bX a k.1 (B false)).bind λo=>some (o,k.2)
def I9:gB:=λc h u d a b m q=>(aR 1 a b).bind λe=>aU 1 e d m λf=>(bJ b (I 1)).bind λg=>(eK prog iI a none (some g)).bind λi=>some (i,f)
def pz(c:aJ)(h:FHs)(u:Nat)(r:dK):dK:=λa f g i e b m q=>(cC b i).bind λj=>aK j ((aI c z6 [a,f] m).bind λd=>(cC d.1 (I 0)).bind λk=>aK k (I9 c h u a e b d.2 (q+9)) ((bJ d.1 g).bind λl=>(eK prog bK a none (some l)).bind λn=>(aR 1 e b).bind λo=>aU 1 o n d.2 λp=>(fZ f).bind λs=>(bJ d.1 s).bind λt=>(eK prog bK a (some t) none).bind λv=>(bJ b (I 1)).bind λw=>r v f g i e w p (q+28))) (I9 c h u a e b m (q+3))
def W5(c:aJ)(h:FHs)(u:Nat):Nat->dK
 |0=>λ_ _ _ _ _ _ _ _=>none
 |n+1=>pz c h u (W5 c h u n)
def NT:pT:=λc h u b d e f m q=>(fZ b).bind λg=>(bJ g (I 1)).bind λi=>(w5 f i).bind λa=>rW oM 1 16 a a (u,q+7,31) m λj k=>(eQ a (I 1)).bind λl=>W5 c h u NN b d e l j (I 0) k (q+13)
def py:pT:=λc h u a b d e m q=>(cC e (I 0)).bind λg=>aK g ((aI c CD [a,b] m).bind λf=>(bJ f.1 (I 1)).bind λi=>NT c h u a b d i f.2 (q+7)) (NT c h u a b d e m (q+2))
def NS:pT:=λc h u b d f a m q=>(eL a (I 0)).bind λg=>aK g (some (nilS,m)) ((bY prog .eql bK (.tmp 14) (.const (.string ⟨#[]⟩)) d (AV.sc (.string ⟨#[]⟩))).bind λi=>aK i ((aI c xwk [b,a] m).bind λe=>some (e.1,e.2)) (py c h u b d f a m (q+5)))
def si:jI:=λc h u m q=>some ((I (-1)),m)
def QD(c:aJ)(h:FHs)(u:Nat)(r:cB):cB:=λb d e a m q=>(cC a e).bind λf=>aK f ((aR 1 b a).bind λg=>(aA false 1 g m).bind λi=>(bY prog .eql bK (.tmp 11) (.tmp 15) d i).bind λj=>aK j (some (a,m)) ((bJ a (I 1)).bind λk=>r b d e k m (q+11))) (si c h u m (q+1))
def H8(c:aJ)(h:FHs)(u:Nat):Nat->cB
 |0=>λ_ _ _ _ _ _=>none
 |n+1=>QD c h u (H8 c h u n)
def se:bS:=λc h u a b m q=>(aM prog iI a).bind λd=>H8 c h u NN a b d (I 0) m (q+3)
def QC:bS:=λc h u a b m q=>se c h u a b m (q+1)
def OJ:cV:=λc h u d m q=>dB d (u,q,1) m λe b=>(aA true 2 e b).bind λf=>(aI c CM [f] b).bind λa=>(cO a.1 0).bind λi=>(cO a.1 1).bind λg=>some (g,a.2)
def QU:bS:=λc h u b d m q=>(c h A7 [b,d] m).bind λa=>(kD a.1 (I 0)).bind λe=>some (e,a.2)
def PO:cV:=λc h u b m q=>(aI c N6 [b,(I 100000000)] m).bind λa=>(dU a.1).bind λd=>some (d,a.2)
def OF:bS:=λc h u d a m q=>(oV a).bind λe=>(aI c uI [d,e,a] m).bind λb=>some (b.1,b.2)
def PN:cV:=λc h u b m q=>(aI c uI [b,(I 0),(I 1000)] m).bind λa=>(dU a.1).bind λd=>some (d,a.2)
def qu:cV:=λc h u a m q=>(c h A0 [a] m).bind λb=>some (a,b.2)
def GH(c:aJ)(h:FHs)(u:Nat)(r:dK):dK:=λa b d e f g m q=>(bJ g (I 1)).bind λi=>r a b d e f i m (q+2)
def qt(c:aJ)(h:FHs)(u:Nat)(r:dK):dK:=λa g b d i e m q=>(aR 1 d e).bind λl=>(aA false 1 l m).bind λj=>(aD 0 a).bind λn=>(aD 1 n).bind λo=>(aA false 1 o m).bind λp=>(aR 2 p j).bind λs=>(aA true 2 s m).bind λt=>(c h N5 [b,t] m).bind λf=>aK f.1 (cQ hY [(0,1,j)] 1 1 (u,q+13,45) f.2 λv k=>cJ 1 8 (u,q+14,46) (elems k.get 1 v) g k λw x=>GH c h u r a w b d i e x (q+16)) (GH c h u r a g b d i e f.2 (q+11))
def OX(c:aJ)(h:FHs)(u:Nat)(r:dK):dK:=λe a f g b d m q=>(cC d b).bind λi=>aK i (qt c h u r e a f g b d m (q+1)) (qu c h u a m (q+1))
def X2(c:aJ)(h:FHs)(u:Nat):Nat->dK
 |0=>λ_ _ _ _ _ _ _ _=>none
 |n+1=>OX c h u (X2 c h u n)
def qs:pT:=λc h u b a d e m q=>(aM prog fA a).bind λf=>X2 c h u NN b d e a f (I 0) m (q+3)
def qr:gB:=λc h u a b f m q=>(c h CO [b,(AV.clo N9 [a])] m).bind λd=>(aD 0 a).bind λg=>(aD 0 g).bind λi=>(aA false 1 i d.2).bind λj=>(aM prog jN j).bind λk=>(vM c z7 [k] d.2).bind λe=>qs c h u a b f e.1 e.2 (q+9)
def OW(c:aJ)(h:FHs)(u:Nat)(s:dS):dS:=λb d e f a m q=>(cC a f).bind λi=>aK i (cQ hY [(0,1,a)] 1 1 (u,q+5,18) m λj g=>cJ 1 8 (u,q+6,19) (elems g.get 1 j) d g λk l=>(bJ a (I 1)).bind λn=>s b k e f n l (q+10)) (qr c h u b d e m (q+1))
def X1(c:aJ)(h:FHs)(u:Nat):Nat->dS
 |0=>λ_ _ _ _ _ _ _=>none
 |n+1=>OW c h u (X1 c h u n)
def qq:gB:=λc h u a b d m q=>(aD 0 a).bind λe=>(aD 1 e).bind λf=>(aA false 1 f m).bind λg=>(aM prog l8 g).bind λi=>X1 c h u NN a b d i (I 0) m (q+5)
def OV:cV:=λc h u a m q=>dB a (u,q,1) m λb d=>qq c h u b nilS nilS d (q+4)
def qm:GC:=λc h u f b g i j d a m q=>(aA false 1 f m).bind λk=>(aR 1 k a).bind λl=>(aA false 1 l m).bind λn=>(dU n).bind λo=>aK o ((aA false 1 b m).bind λp=>(aA false 1 b m).bind λr=>(aA false 1 j m).bind λs=>(aR 1 r s).bind λt=>(aA false 1 t m).bind λv=>(aD 1 d).bind λw=>(aA false 1 w m).bind λx=>(aA false 1 g m).bind λy=>(aD 0 d).bind λz=>(aA false 1 z m).bind λA=>(aR 1 y A).bind λB=>(aA false 1 B m).bind λC=>(nD x C).bind λD=>(bJ v D).bind λE=>(aR 1 p a).bind λF=>aU 1 F E m λe=>(aA false 1 i e).bind λG=>(fL c h 2 G [a] e).bind λH=>some H.2) (some m)
def OR:GC:=λc h u b d e f g i j m q=>dG HL (u,q,8) m λa k=>aU 2 a i k λl=>qm c h u b d e f g a j l (q+3)
def ql:MU:=λc h u a b d e f i m q=>tV i λg caps=>(c (((u,q,0),λargs m=>bif Nat.beq args.length 2&&true then OR c h m.next a b d e f (args.getD 0 U) (args.getD 1 U) ⟨m.hp,m.next+1⟩ 0 else none)::h) g (.yld (u,q,0)::caps) m).bind λp=>(some (AV.tup [],p.2))
def OQ:xik:=λc h u g e i j k l n m q=>dB g (u,q,7) m λb d=>(aA false 1 e d).bind λo=>(aA false 1 b d).bind λp=>(aR 1 o p).bind λr=>aU 1 r (B true) d λa=>(aA true 2 i a).bind λs=>(aA false 1 b a).bind λt=>(aA false 1 j a).bind λv=>(aI c CH [s,t,v] a).bind λf=>ql c h u e k l n b f.1 f.2 (q+9)
def PF:gB:=λc h u a b d m q=>dB a (u,q,3) m λe f=>dB b (u,q+1,4) f λg i=>dB d (u,q+2,5) i λj k=>some ((AV.clo yA [j,e,g]),k)
def qe:cV:=λc h u a m q=>some (a,m)
def OI(c:aJ)(h:FHs)(u:Nat)(r:hW):hW:=λb d a m q=>(cC a d).bind λf=>aK f (cQ hY [(0,1,a)] 1 1 (u,q+5,11) m λg e=>cJ 1 8 (u,q+6,12) (elems e.get 1 g) b e λi j=>(bJ a (I 1)).bind λk=>r i d k j (q+10)) (qe c h u b m (q+1))
def W7(c:aJ)(h:FHs)(u:Nat):Nat->hW
 |0=>λ_ _ _ _ _=>none
 |n+1=>OI c h u (W7 c h u n)
def qd:bS:=λc h u a b m q=>W7 c h u NN b a (I 0) m (q+2)
def OH:cV:=λc h u a m q=>qd c h u a nilS m (q+2)
def qc:bS:=λc h u a b m q=>(eF a b).bind λd=>some (d,m)
def OE(c:aJ)(h:FHs)(u:Nat)(r:dK):dK:=λa b d e f g m q=>(bJ g (I 1)).bind λi=>r a b d e f i m (q+2)
def qb(c:aJ)(h:FHs)(u:Nat)(r:dK):dK:=λf a b g j d m q=>(aR 1 g d).bind λo=>(aA false 1 o m).bind λk=>(eL k a).bind λe=>bL e false k m λl=>bL e false b l.2 λn=>aL e false (eL l.1 n.1) n.2 λi=>(bX e (B true) i.1).bind λp=>aK p ((w5 a b).bind λs=>(aR 1 f d).bind λt=>aU 1 t s i.2 λv=>OE c h u r f a b g j d v (q+20)) (OE c h u r f a b g j d i.2 (q+13))
def OD(c:aJ)(h:FHs)(u:Nat)(r:dK):dK:=λf a b g d e m q=>(cC e d).bind λi=>aK i (qb c h u r f a b g d e m (q+1)) (qc c h u a b m (q+1))
def W6(c:aJ)(h:FHs)(u:Nat):Nat->dK
 |0=>λ_ _ _ _ _ _ _ _=>none
 |n+1=>OD c h u (W6 c h u n)
def qa:gB:=λc h u a b d m q=>(aM prog yf a).bind λe=>W6 c h u NN a b d a e (I 0) m (q+3)
def OC:bS:=λc h u b e m q=>dB e (u,q,3) m λd a=>(aD 0 d).bind λf=>(aA false 1 f a).bind λg=>(aR 1 b g).bind λi=>(aA false 1 i a).bind λj=>(aD 1 d).bind λk=>(aA false 1 k a).bind λl=>(aR 1 b l).bind λn=>(aA false 1 n a).bind λo=>qa c h u b j o a (q+14)
def US:gB:=λc h u b g i m q=>(iM g b).bind λa=>bL a true b m λd=>bL a true i d.2 λe=>aL a true (iM d.1 e.1) e.2 λf=>(bX a f.1 (B false)).bind λj=>some (j,f.2)
def vm:bS:=λc h u a b m q=>(mM prog f6 hZ a).bind λd=>(kJ prog bK (AV.sc (.string ⟨#[0,1,2,2,3,3,3,3,4,4,4,4,4,4,4,4,5,5,5,5,5,5,5,5,5,5,5,5,5,5,5,5,6,6,6,6,6,6,6,6,6,6,6,6,6,6,6,6,6,6,6,6,6,6,6,6,6,6,6,6,6,6,6,6,7,7,7,7,7,7,7,7,7,7,7,7,7,7,7,7,7,7,7,7,7,7,7,7,7,7,7,7,7,7,7,7,7,7,7,7,7,7,7,7,7,7,7,7,7,7,7,7,7,7,7,7,7,7,7,7,7,7,7,7,7,7,7,7,8,8,8,8,8,8,8,8,8,8,8,8,8,8,8,8,8,8,8,8,8,8,8,8,8,8,8,8,8,8,8,8,8,8,8,8,8,8,8,8,8,8,8,8,8,8,8,8,8,8,8,8,8,8,8,8,8,8,8,8,8,8,8,8,8,8,8,8,8,8,8,8,8,8,8,8,8,8,8,8,8,8,8,8,8,8,8,8,8,8,8,8,8,8,8,8,8,8,8,8,8,8,8,8,8,8,8,8,8,8,8,8,8,8,8,8,8,8,8,8,8,8,8,8,8,8,8,8]⟩)) d).bind λe=>(mM prog hZ eB e).bind λf=>(bJ b f).bind λg=>some (g,m)
def vl:bS:=λc h u a b m q=>(bY prog .geq f6 (.tmp 13) (.const (.int .u64 256)) a (AV.sc (.int .u64 256))).bind λd=>aK d ((bY prog .shr f6 (.tmp 15) (.const (.int .u64 8)) a (AV.sc (.int .u64 8))).bind λe=>(bJ b (I 8)).bind λf=>vm c h u e f m (q+8)) (vm c h u a b m (q+2))
def vk:bS:=λc h u a b m q=>(bY prog .geq f6 (.tmp 7) (.const (.int .u64 65536)) a (AV.sc (.int .u64 65536))).bind λd=>aK d ((bY prog .shr f6 (.tmp 9) (.const (.int .u64 16)) a (AV.sc (.int .u64 16))).bind λe=>(bJ b (I 16)).bind λf=>vl c h u e f m (q+8)) (vl c h u a b m (q+2))
def xi6:bS:=λc h u a b m q=>(bY prog .geq f6 (.tmp 3) (.const (.int .u64 4294967296)) a (AV.sc (.int .u64 4294967296))).bind λd=>aK d ((bY prog .shr f6 (.tmp 5) (.const (.int .u64 32)) a (AV.sc (.int .u64 32))).bind λe=>vk c h u e (I 32) m (q+6)) (vk c h u a b m (q+2))
def vj:cV:=λc h u a m q=>xi6 c h u a (I 0) m (q+1)
def UP:bS:=λc h u a d m q=>(aI c C2 [a,d] m).bind λb=>aK b.1 ((fZ d).bind λe=>(eK prog bK a (some e) none).bind λf=>some (f,b.2)) (some (a,b.2))
def xiq(c:aJ)(h:FHs)(u:Nat)(r:hW):hW:=λd b e m q=>(aI c z6 [d,b] m).bind λa=>(eL a.1 (I (-1))).bind λf=>aK f (some (e,a.2)) ((bJ e (I 1)).bind λg=>(fZ b).bind λi=>(bJ a.1 i).bind λj=>(eK prog bK d (some j) none).bind λk=>r k b g a.2 (q+16))
def fh(c:aJ)(h:FHs)(u:Nat):Nat->hW
 |0=>λ_ _ _ _ _=>none
 |n+1=>xiq c h u (fh c h u n)
def NZ:bS:=λc h u b a m q=>(fZ a).bind λf=>(eL f (I 0)).bind λg=>aK g ((aI c xwj [b] m).bind λd=>(bJ d.1 (I 1)).bind λi=>some (i,d.2)) ((fZ a).bind λj=>(eL j (I 1)).bind λk=>aK k ((kJ prog bK a (I 0)).bind λl=>(aI c yI [b,l] m).bind λe=>some (e.1,e.2)) (fh c h u NN b a (I 0) m (q+8)))
def ro:jI:=λc h u m q=>some (AV.tup [(I 0),(I 0)],m)
def PR(c:aJ)(h:FHs)(u:Nat)(r:dS):dS:=λk f l n d m q=>(cC d n).bind λv=>aK v ((aR 2 l d).bind λw=>(aA true 2 w m).bind λx=>dG xG (u,q+4,8) m λb y=>aU 2 b x y λg=>(aD 0 k).bind λz=>(aA false 1 z g).bind λA=>(aM prog jN A).bind λC=>(eQ C (I 1)).bind λo=>(aD 0 b).bind λD=>(aA false 1 D g).bind λE=>(aI c uI [E,(I 0),o] g).bind λp=>(dU p.1).bind λe=>aL e false (aD 1 b) p.2 λi=>aL e false (aA false 1 i.1 i.2) i.2 λs=>bL e false o s.2 λj=>fI e false (aI c uI [s.1,(I 0),j.1] j.2) j.2 λt=>aL e false (dU t.1) t.2 λa=>(bX e (B true) a.1).bind λF=>aK F (some (AV.tup [d,(I 6)],a.2)) ((aD 0 b).bind λG=>(aA false 1 G a.2).bind λH=>(aD 1 b).bind λJ=>(aA false 1 J a.2).bind λK=>(kD H K).bind λL=>aK L (some (AV.tup [d,(I 9)],a.2)) ((aA true 2 b a.2).bind λM=>(xR prog WO f M false a.2).bind λN=>aK N (some (AV.tup [d,(I 28)],a.2)) ((aA true 2 b a.2).bind λO=>tW prog WO f O (B true) a.2 λP=>(bJ d (I 1)).bind λQ=>r k f l n Q P (q+40))))) (ro c h u m (q+1))
def H7(c:aJ)(h:FHs)(u:Nat):Nat->dS
 |0=>λ_ _ _ _ _ _ _=>none
 |n+1=>PR c h u (H7 c h u n)
def rn:bS:=λc h u a d m q=>(aD 1 a).bind λe=>(aA false 1 e m).bind λb=>(aM prog l8 b).bind λf=>H7 c h u NN a d b f (I 0) m (q+4)
def PQ:cV:=λc h u f m q=>dB f (u,q,1) m λb d=>(aD 0 b).bind λg=>(aA false 1 g d).bind λi=>(aI c O5 [i] d).bind λa=>(cO a.1 0).bind λj=>(cO a.1 1).bind λe=>(eF e (I 0)).bind λk=>aK k (some (AV.tup [j,e],a.2)) ((aD 1 b).bind λl=>(aA false 1 l a.2).bind λn=>(aM prog l8 n).bind λo=>(eS o (I 200)).bind λp=>aK p (some (AV.tup [(I 0),(I 8)],a.2)) (BM (u,q+17,24) a.2 λr s=>rn c h u b r s (q+19)))
def QH:jI:=λc h u m q=>some ((I (-1)),m)
def Z8(c:aJ)(h:FHs)(u:Nat)(r:cB):cB:=λd e f a m q=>(cC a f).bind λg=>aK g ((aR 1 d a).bind λi=>(aA false 1 i m).bind λj=>(fL c h 2 e [j] m).bind λb=>aK b.1 (some (a,b.2)) ((bJ a (I 1)).bind λk=>r d e f k b.2 (q+11))) (QH c h u m (q+1))
def vD(c:aJ)(h:FHs)(u:Nat):Nat->cB
 |0=>λ_ _ _ _ _ _=>none
 |n+1=>Z8 c h u (vD c h u n)
def QG:bS:=λc h u a b m q=>(aM prog fA a).bind λd=>vD c h u NN a b d (I 0) m (q+3)
def GN:bS:=λc h u a b m q=>QG c h u a b m (q+1)
def QB:bS:=λc h u a b m q=>(aM prog fA a).bind λd=>(c h JU [a,d,b] m).bind λe=>(some (AV.tup [],e.2))
def OY:gB:=λc h u a g b m q=>(aA true 2 b m).bind λd=>(aI c O1 [d,a] m).bind λe=>(aA true 2 b e.2).bind λi=>(aI c O1 [i,g] e.2).bind λf=>(eQ e.1 f.1).bind λj=>bif(Nat.ble 1 (bU 0 [d,a])&&true)&&(cU (some m.next) (tR b) (bU 0 [d,a])&&true)then some (j,f.2)else none
def OZ:bS:=λc h u x y m q=>dB x (u,q,2) m λk l=>(aD 0 k).bind λz=>(aD 1 z).bind λA=>(aA false 1 A l).bind λB=>(aR 2 B y).bind λC=>(aA true 2 C l).bind λD=>dG xG (u,q+8,5) l λn E=>aU 2 n D E λa=>(aD 0 k).bind λF=>(aD 0 F).bind λo=>(aA false 1 o a).bind λG=>(aD 0 n).bind λp=>(aA false 1 p a).bind λH=>(aR 3 G H).bind λr=>(aA true 3 r a).bind λI=>(aD 0 k).bind λJ=>(aD 0 J).bind λe=>(aA false 1 e a).bind λK=>(aD 1 n).bind λf=>(aA false 1 f a).bind λL=>(aR 3 K L).bind λg=>(aA true 3 g a).bind λM=>dG mV (u,q+24,6) a λb N=>dG mV (u,q+25,7) N λs O=>aU 3 b I O λP=>aU 3 s M P λd=>bif(aW (tR o) (some [],some [(u,q+24,6)])&&(aW (tR p) (some [],some [(u,q+24,6)])&&(aW (tR r) (some [],some [(u,q+24,6)])&&(aW (tR e) (some [],some [(u,q+24,6)])&&(aW (tR f) (some [],some [(u,q+24,6)])&&(aW (tR g) (some [],some [(u,q+24,6)])&&(aW (tR o) (some [],some [(u,q+25,7)])&&(aW (tR p) (some [],some [(u,q+25,7)])&&(aW (tR r) (some [],some [(u,q+25,7)])&&(aW (tR e) (some [],some [(u,q+25,7)])&&(aW (tR f) (some [],some [(u,q+25,7)])&&(aW (tR g) (some [],some [(u,q+25,7)])&&(aW (some [],some [(u,q+24,6)]) (some [],some [(u,q+25,7)])&&(aW (tR e) (tS b)&&(aW (tR f) (tS b)&&(aW (tR g) (tS b)&&true))))))))))))))))then (aD 1 b).bind λQ=>(aA false 1 Q d).bind λR=>(aD 1 s).bind λS=>(aA false 1 S d).bind λT=>(eQ R T).bind λi=>(aI c N7 [i] d).bind λj=>(aD 2 b).bind λt=>(aA false 1 t j.2).bind λU=>(aD 2 s).bind λv=>(aA false 1 v j.2).bind λV=>(eQ U V).bind λW=>(aI c N7 [W] j.2).bind λw=>(bJ j.1 w.1).bind λX=>bif(Nat.ble 1 (bU 0 [i])&&true)&&(cU (some d.next) (tR t) (bU 0 [i])&&(cU (some d.next) (tR v) (bU 0 [i])&&true))then some (X,w.2)else none else none
def QA:cV:=λc h u a m q=>(aM prog fA a).bind λb=>(mM prog eB WJ b).bind λe=>(aI c DP [e] m).bind λd=>(c h O9 [a,(I 0),b,d.1] d.2).bind λf=>(some (AV.tup [],f.2))
def qz(c:aJ)(h:FHs)(u:Nat)(r:dK):dK:=λa b d e f g m q=>(bJ g (I 1)).bind λi=>r a b d e f i m (q+2)
def PE(c:aJ)(h:FHs)(u:Nat)(r:dK)(s:oL):oL:=λd e f o p t v w g m q=>(cC g (I 2)).bind λz=>aK z ((kJ prog AQ w g).bind λA=>(cY HL [(0,1,o),(1,1,A)]).bind λC=>dG HL (u,q+6,9) m λi D=>aU 2 i C D λj=>(aA true 2 e j).bind λE=>(aA true 2 i j).bind λF=>(aI c CJ [E,F] j).bind λb=>(cO b.1 0).bind λG=>(cO b.1 1).bind λH=>(aA false 1 f b.2).bind λJ=>(eL G J).bind λa=>bL a true d b.2 λk=>aL a true (aA true 2 i k.2) k.2 λx=>bL a true H x.2 λl=>fI a true (fL c h 2 k.1 [x.1,l.1] l.2) l.2 λy=>aL a true (dU y.1) y.2 λn=>(bX a n.1 (B false)).bind λK=>aK K (some (AV.tup [],n.2)) ((bJ g (I 1)).bind λL=>s d e f o p t v w L n.2 (q+28))) (qz c h u r d e f p t v m (q+1))
def H5(c:aJ)(h:FHs)(u:Nat)(r:dK):Nat->oL
 |0=>λ_ _ _ _ _ _ _ _ _ _ _=>none
 |n+1=>PE c h u r (H5 c h u r n)
def qy(c:aJ)(h:FHs)(u:Nat)(r:dK):dK:=λd e f a g b m q=>(aR 1 a b).bind λi=>(aA false 1 i m).bind λj=>(cY ye [(0,1,(I 1)),(1,1,(I (-1)))]).bind λk=>H5 c h u r NN d e f j a g b k (I 0) m (q+5)
def PD(c:aJ)(h:FHs)(u:Nat)(r:dK):dK:=λd e f g a b m q=>(cC b a).bind λi=>aK i (qy c h u r d e f g a b m (q+1)) ((some (AV.tup [],m)))
def zV(c:aJ)(h:FHs)(u:Nat):Nat->dK
 |0=>λ_ _ _ _ _ _ _ _=>none
 |n+1=>PD c h u (zV c h u n)
def PC:pT:=λc h u b d e f m q=>(aA false 1 d m).bind λa=>(aM prog fA a).bind λg=>zV c h u NN b e f a g (I 0) m (q+3)
def PG:bS:=λc h u f g m q=>dB f (u,q,2) m λi j=>dB g (u,q+1,3) j λe d=>(aD 0 i).bind λk=>(aD 1 k).bind λl=>(aA false 1 l d).bind λn=>(aD 0 e).bind λo=>(aA false 1 o d).bind λp=>(aR 2 n p).bind λr=>(aA true 2 r d).bind λs=>dG xG (u,q+11,6) d λb t=>aU 2 b s t λa=>(aD 1 e).bind λv=>(aA false 1 v a).bind λw=>(cC w (I 0)).bind λx=>aK x ((aD 1 b).bind λy=>(aA false 1 y a).bind λz=>(aD 0 b).bind λA=>(aA false 1 A a).bind λB=>some (AV.tup [z,B],a)) ((aD 0 b).bind λC=>(aA false 1 C a).bind λD=>(aD 1 b).bind λE=>(aA false 1 E a).bind λF=>some (AV.tup [D,F],a))
def rf:jI:=λc h u m q=>some (AV.tup [(I 0),(I 0)],m)
def PJ(c:aJ)(h:FHs)(u:Nat)(r:cB):cB:=λk l n a m q=>(cC a n).bind λt=>aK t ((aR 3 l a).bind λv=>(aA true 3 v m).bind λw=>dG mV (u,q+4,5) m λb x=>aU 3 b w x λo=>(aD 0 b).bind λy=>(aA false 1 y o).bind λz=>(aI c CG [z] o).bind λf=>(dU f.1).bind λA=>aK A (some (AV.tup [a,(I 4)],f.2)) ((eK prog jN k none (some a)).bind λC=>(aI c CU [C,(AV.clo nE [b])] f.2).bind λe=>aK e.1 (some (AV.tup [a,(I 5)],e.2)) ((aD 1 b).bind λD=>(aA false 1 D e.2).bind λE=>(aI c uI [E,(I 0),(I 100000)] e.2).bind λp=>(dU p.1).bind λd=>aL d false (aD 2 b) p.2 λg=>aL d false (aA false 1 g.1 g.2) g.2 λi=>fI d false (aI c N6 [i.1,(I 100000)] i.2) i.2 λs=>aL d false (dU s.1) s.2 λj=>(bX d (B true) j.1).bind λF=>aK F (some (AV.tup [a,(I 2)],j.2)) ((bJ a (I 1)).bind λG=>r k l n G j.2 (q+31))))) (rf c h u m (q+1))
def H6(c:aJ)(h:FHs)(u:Nat):Nat->cB
 |0=>λ_ _ _ _ _ _=>none
 |n+1=>PJ c h u (H6 c h u n)
def re:cV:=λc h u a m q=>(aM prog jN a).bind λb=>H6 c h u NN a a b (I 0) m (q+3)
def PH:cV:=λc h u a m q=>(aM prog jN a).bind λb=>(eS b (I 60)).bind λd=>aK d (some (AV.tup [(I 0),(I 8)],m)) (re c h u a m (q+5))
def ru(c:aJ)(h:FHs)(u:Nat)(r:cB):cB:=λa b d e m q=>(nD e (I 2)).bind λf=>r a b d f m (q+3)
def xit(c:aJ)(h:FHs)(u:Nat)(r:cB):dS:=λb a d e f m q=>(bJ f e).bind λg=>(cC g a).bind λi=>aK i ((c h xcy [b,f,g,a,d] m).bind λj=>ru c h u r b a d e j.2 (q+13)) (ru c h u r b a d e m (q+7))
def xis(c:aJ)(h:FHs)(u:Nat)(r:cB)(s:dK):dK:=λd e f a g b m q=>(iM b e).bind λi=>aK i ((bJ g a).bind λj=>(c h xcy [d,g,j,b,f] m).bind λk=>(nD (I 2) a).bind λl=>(bJ b l).bind λn=>s d e f a b n k.2 (q+18)) (xit c h u r d e f a g m (q+3))
def fi(c:aJ)(h:FHs)(u:Nat)(r:cB):Nat->dK
 |0=>λ_ _ _ _ _ _ _ _=>none
 |n+1=>xis c h u r (fi c h u r n)
def xir(c:aJ)(h:FHs)(u:Nat)(r:cB):cB:=λb d e a m q=>(nD (I 2) a).bind λf=>fi c h u r NN b d e a (I 0) f m (q+4)
def rt(c:aJ)(h:FHs)(u:Nat)(r:cB):cB:=λd a e b m q=>(cC b a).bind λf=>aK f (xir c h u r d a e b m (q+3)) ((some (AV.tup [],m)))
def MJ(c:aJ)(h:FHs)(u:Nat):Nat->cB
 |0=>λ_ _ _ _ _ _=>none
 |n+1=>rt c h u (MJ c h u n)
def rr:Z7:=λc h u a b d e f m q=>(c h P1 [a,f,b,d] m).bind λg=>MJ c h u NN a b d e g.2 (q+5)
def rq(c:aJ)(h:FHs)(u:Nat)(w:dK):dK:=λb d e f g a m q=>(iM a d).bind λi=>aK i ((c h P1 [b,g,a,e] m).bind λj=>(bJ a f).bind λk=>w b d e f a k j.2 (q+14)) (rr c h u b d e f g m (q+3))
def MI(c:aJ)(h:FHs)(u:Nat):Nat->dK
 |0=>λ_ _ _ _ _ _ _ _=>none
 |n+1=>rq c h u (MI c h u n)
def PS:gB:=λc h u a b d m q=>MI c h u NN a b d (I 20) (I 0) (I 20) m (q+4)
def OG:cV:=λc h u a m q=>(oV a).bind λb=>(L6 a b).bind λd=>some (d,m)
def sa(c:aJ)(h:FHs)(u:Nat)(r:dK):d4:=λb d e g F G H j m q=>(eS d (I 0)).bind λa=>bL a true b m λp=>bL a true d p.2 λs=>aL a true (eQ s.1 (I 1)) s.2 λt=>aL a true (aR 1 p.1 t.1) t.2 λk=>aL a true (aA false 1 k.1 k.2) k.2 λv=>bL a true b v.2 λw=>bL a true j w.2 λx=>aL a true (aR 1 w.1 x.1) x.2 λl=>aL a true (aA false 1 l.1 l.2) l.2 λn=>fI a true (aI c S9 [v.1,n.1] n.2) n.2 λy=>aL a true (dU y.1) y.2 λo=>(bX a o.1 (B false)).bind λJ=>aK J ((c h xwn [b,d,e,j] o.2).bind λz=>r b z.1 e g F G z.2 (q+23)) ((c h xwm [b,d,e,j] o.2).bind λi=>(cO i.1 0).bind λf=>(cO i.1 1).bind λA=>(eQ f d).bind λC=>(eQ e f).bind λD=>(v8 H (I 8)).bind λE=>(cC C D).bind λK=>aK K ((kD C E).bind λL=>(c h O9 [b,d,f,g] i.2).bind λM=>(bJ f (I 1)).bind λN=>r b N e g L A M.2 (q+53)) ((kD D E).bind λO=>(bJ f (I 1)).bind λP=>(c h O9 [b,P,e,g] i.2).bind λQ=>r b d f g O A Q.2 (q+53)))
def rz(c:aJ)(h:FHs)(u:Nat)(r:dK):oL:=λb d e k a f l n s m q=>bL a true f m λo=>(bX a o.1 (B false)).bind λg=>bL g true s o.2 λp=>aL g true (eL p.1 (I 1)) p.2 λi=>(bX g i.1 (B false)).bind λt=>aK t ((c h xwo [b,d,e] i.2).bind λj=>aK j.1 (some (AV.tup [],j.2)) (sa c h u r b d e k a f l n j.2 (q+12))) (sa c h u r b d e k a f l n i.2 (q+8))
def xiv(c:aJ)(h:FHs)(u:Nat)(r:dK):oL:=λd a b e f g i j k m q=>(eL k (I 2)).bind λl=>aK l ((c h xwl [d,a,b] m).bind λn=>(eQ b (I 1)).bind λo=>(eQ j a).bind λp=>(eQ o p).bind λs=>rz c h u r d a b e f g i s (I 1) n.2 (q+14)) (rz c h u r d a b e f g i j k m (q+2))
def ry(c:aJ)(h:FHs)(u:Nat)(r:dK):gI:=λb d e f g i j m q=>(c h xwq [b,d,e] m).bind λa=>(cO a.1 0).bind λk=>(cO a.1 1).bind λl=>xiv c h u r b d e f g i j k l a.2 (q+9)
def xiu(c:aJ)(h:FHs)(u:Nat)(r:dK):gI:=λa b d f e g i m q=>(dU e).bind λj=>aK j ((c h xwr [a,b,d] m).bind λk=>(eQ f (I 1)).bind λl=>ry c h u r a b d l e g i k.2 (q+9)) (ry c h u r a b d f e g i m (q+2))
def rx(c:aJ)(h:FHs)(u:Nat)(r:dK):dK:=λd a b e g i m q=>(eQ b a).bind λf=>(iM f (I 12)).bind λj=>aK j ((c h CN [d,a,b] m).bind λk=>some (AV.tup [],k.2)) ((eL e (I 0)).bind λl=>aK l ((c h xwp [d,a,b] m).bind λn=>some (AV.tup [],n.2)) (xiu c h u r d a b e g i f m (q+8)))
def MK(c:aJ)(h:FHs)(u:Nat):Nat->dK
 |0=>λ_ _ _ _ _ _ _ _=>none
 |n+1=>rx c h u (MK c h u n)
def PT:pT:=λc h u a b d e m q=>MK c h u NN a b d e (B true) (B true) m (q+2)
def UI:cV:=λc h u a m q=>aK (B false) ((mM prog WJ xkb a).bind λe=>(aI c xws [e] m).bind λb=>some (b.1,b.2)) ((aI c DO [a] m).bind λd=>some (d.1,d.2))
def qi:jI:=λc h u m q=>some ((B true),m)
def ON(c:aJ)(h:FHs)(u:Nat)(r:hW):hW:=λa b d m q=>(bJ d (I 1)).bind λe=>r a b e m (q+2)
def OM(c:aJ)(h:FHs)(u:Nat)(r:hW):dK:=λv e g i j w m q=>aK w (ON c h u r g i j m q) ((eS v (I 0)).bind λb=>bL b true e m λk=>aL b true (bY prog .eql hZ (.tmp 37) (.const (.int .u8 45)) k.1 (AV.sc (.int .u8 45))) k.2 λl=>bL b true l.1 l.2 λa=>bL a.1 false e a.2 λn=>aL a.1 false (bY prog .geq hZ (.tmp 40) (.const (.int .u8 48)) n.1 (AV.sc (.int .u8 48))) n.2 λo=>bL a.1 false o.1 o.2 λd=>bL d.1 true e d.2 λp=>aL d.1 true (bY prog .leq hZ (.tmp 43) (.const (.int .u8 57)) p.1 (AV.sc (.int .u8 57))) p.2 λs=>aL a.1 false (bX d.1 s.1 (B false)) s.2 λt=>aL b true (bX a.1 (B true) t.1) t.2 λf=>(bX b f.1 (B false)).bind λx=>aK x (ON c h u r g i j f.2 (q+15)) (some ((B false),f.2)))
def qh(c:aJ)(h:FHs)(u:Nat)(r:hW):dS:=λf a g i j m q=>(bY prog .geq hZ (.tmp 21) (.const (.int .u8 97)) a (AV.sc (.int .u8 97))).bind λb=>bL b true a m λk=>aL b true (bY prog .leq hZ (.tmp 24) (.const (.int .u8 122)) k.1 (AV.sc (.int .u8 122))) k.2 λd=>(bX b d.1 (B false)).bind λl=>aK l (OM c h u r f a g i j l d.2 (q+7)) ((bY prog .geq hZ (.tmp 27) (.const (.int .u8 65)) a (AV.sc (.int .u8 65))).bind λe=>bL e true a d.2 λn=>aL e true (bY prog .leq hZ (.tmp 30) (.const (.int .u8 90)) n.1 (AV.sc (.int .u8 90))) n.2 λo=>(bX e o.1 (B false)).bind λp=>OM c h u r f a g i j p o.2 (q+14))
def qg(c:aJ)(h:FHs)(u:Nat)(r:hW):hW:=λb d a m q=>(aR 1 b a).bind λe=>(aA false 1 e m).bind λf=>qh c h u r a f b d a m (q+5)
def OL(c:aJ)(h:FHs)(u:Nat)(r:hW):hW:=λd a b m q=>(cC b a).bind λe=>aK e (qg c h u r d a b m (q+1)) (qi c h u m (q+1))
def H4(c:aJ)(h:FHs)(u:Nat):Nat->hW
 |0=>λ_ _ _ _ _=>none
 |n+1=>OL c h u (H4 c h u n)
def qf:cV:=λc h u b m q=>(mM prog bK tH b).bind λa=>(aM prog tH a).bind λd=>H4 c h u NN a d (I 0) m (q+4)
def OK:cV:=λc h u b m q=>(bY prog .eql bK (.tmp 5) (.const (.string ⟨#[]⟩)) b (AV.sc (.string ⟨#[]⟩))).bind λa=>bL a false b m λe=>aL a false (fZ e.1) e.2 λf=>aL a false (eS f.1 (I 12)) f.2 λd=>(bX a (B true) d.1).bind λg=>aK g (some ((B false),d.2)) (qf c h u b d.2 (q+8))
def QV:bS:=λc h u b d m q=>(eO c A8 [b,d] m).bind λa=>(kD a.1 (I 0)).bind λe=>some (e,a.2)
def PI:bS:=λc h u b d m q=>dB b (u,q,2) m λe a=>(aD 0 e).bind λf=>(aA false 1 f a).bind λg=>(aD 0 d).bind λi=>(aA false 1 i a).bind λj=>(bY prog .eql bK (.tmp 5) (.tmp 7) g j).bind λk=>some (k,a)
def PZ(c:aJ)(h:FHs)(u:Nat)(r:dS):dS:=λa b d e f m q=>(bJ f (I 1)).bind λg=>r a b d e g m (q+3)
def PY(c:aJ)(h:FHs)(u:Nat)(r:dS)(s:dK):dK:=λb f l g n d m q=>(eS d f).bind λa=>bL a true g m λo=>bL a true b o.2 λp=>bL a true d p.2 λt=>aL a true (aR 1 p.1 t.1) t.2 λi=>aL a true (aA false 1 i.1 i.2) i.2 λv=>bL a true b v.2 λw=>bL a true d w.2 λx=>aL a true (eQ x.1 (I 1)) x.2 λy=>aL a true (aR 1 w.1 y.1) y.2 λj=>aL a true (aA false 1 j.1 j.2) j.2 λk=>fI a true (fL c h 2 o.1 [v.1,k.1] k.2) k.2 λz=>aL a true (cC z.1 (I 0)) z.2 λe=>(bX a e.1 (B false)).bind λA=>aK A ((eQ d (I 1)).bind λC=>(eQ d (I 1)).bind λD=>(aR 1 b D).bind λE=>(aA false 1 E e.2).bind λF=>(aR 1 b d).bind λG=>(aA false 1 G e.2).bind λH=>(aR 1 b d).bind λJ=>aU 1 J F e.2 λK=>(aR 1 b C).bind λL=>aU 1 L H K λM=>(eQ d (I 1)).bind λN=>s b f l g n N M (q+38)) (PZ c h u r b f l g n e.2 (q+17))
def X7(c:aJ)(h:FHs)(u:Nat)(r:dS):Nat->dK
 |0=>λ_ _ _ _ _ _ _ _=>none
 |n+1=>PY c h u r (X7 c h u r n)
def sd(c:aJ)(h:FHs)(u:Nat)(r:dS):dS:=λb d e f a m q=>X7 c h u r NN b d e f a a m (q+2)
def GM(c:aJ)(h:FHs)(u:Nat)(r:dS):dS:=λd e a f b m q=>(cC b a).bind λg=>aK g (sd c h u r d e a f b m (q+3)) ((some (AV.tup [],m)))
def zX(c:aJ)(h:FHs)(u:Nat):Nat->dS
 |0=>λ_ _ _ _ _ _ _=>none
 |n+1=>GM c h u (zX c h u n)
def PX:pT:=λc h u b a d e m q=>(bJ a (I 1)).bind λf=>zX c h u NN b a d e f m (q+3)
def PW(c:aJ)(h:FHs)(u:Nat)(r:cB):cB:=λa b d e m q=>(bJ e (I 1)).bind λf=>r a b d f m (q+3)
def PV(c:aJ)(h:FHs)(u:Nat)(r:cB)(s:dS):dS:=λb f k l d m q=>(eS d f).bind λa=>bL a true b m λn=>bL a true d n.2 λo=>aL a true (aR 1 n.1 o.1) o.2 λg=>aL a true (aA false 1 g.1 g.2) g.2 λp=>bL a true b p.2 λt=>bL a true d t.2 λv=>aL a true (eQ v.1 (I 1)) v.2 λw=>aL a true (aR 1 t.1 w.1) w.2 λi=>aL a true (aA false 1 i.1 i.2) i.2 λj=>fI a true (aI c S9 [p.1,j.1] j.2) j.2 λe=>(bX a e.1 (B false)).bind λx=>aK x ((eQ d (I 1)).bind λy=>(eQ d (I 1)).bind λz=>(aR 1 b z).bind λA=>(aA false 1 A e.2).bind λC=>(aR 1 b d).bind λD=>(aA false 1 D e.2).bind λE=>(aR 1 b d).bind λF=>aU 1 F C e.2 λG=>(aR 1 b y).bind λH=>aU 1 H E G λJ=>(eQ d (I 1)).bind λK=>s b f k l K J (q+36)) (PW c h u r b f k l e.2 (q+15))
def X6(c:aJ)(h:FHs)(u:Nat)(r:cB):Nat->dS
 |0=>λ_ _ _ _ _ _ _=>none
 |n+1=>PV c h u r (X6 c h u r n)
def sb(c:aJ)(h:FHs)(u:Nat)(r:cB):cB:=λb d e a m q=>X6 c h u r NN b d e a a m (q+2)
def GL(c:aJ)(h:FHs)(u:Nat)(r:cB):cB:=λd e a b m q=>(cC b a).bind λf=>aK f (sb c h u r d e a b m (q+3)) ((some (AV.tup [],m)))
def zW(c:aJ)(h:FHs)(u:Nat):Nat->cB
 |0=>λ_ _ _ _ _ _=>none
 |n+1=>GL c h u (zW c h u n)
def PU:gB:=λc h u b a d m q=>(bJ a (I 1)).bind λe=>zW c h u NN b a d e m (q+3)
def VK:bS:=λc h u e f m q=>(aI c S8 [e] m).bind λa=>bL a.1 true f a.2 λd=>fI a.1 true (aI c S8 [d.1] d.2) d.2 λg=>aL a.1 true (dU g.1) g.2 λi=>(bX a.1 i.1 (B false)).bind λb=>bL b false e i.2 λj=>bL b false f j.2 λk=>aL b false (cC j.1 k.1) k.2 λl=>(bX b (B true) l.1).bind λn=>some (n,l.2)
def sm:jI:=λc h u m q=>some ((I (-1)),m)
def QJ(c:aJ)(h:FHs)(u:Nat)(r:cB):cB:=λd e f a m q=>(cC a f).bind λg=>aK g ((aR 3 d a).bind λi=>(aA true 3 i m).bind λj=>(fL c h 2 e [j] m).bind λb=>aK b.1 (some (a,b.2)) ((bJ a (I 1)).bind λk=>r d e f k b.2 (q+11))) (sm c h u m (q+1))
def H9(c:aJ)(h:FHs)(u:Nat):Nat->cB
 |0=>λ_ _ _ _ _ _=>none
 |n+1=>QJ c h u (H9 c h u n)
def QI:bS:=λc h u a b m q=>(aM prog jN a).bind λd=>H9 c h u NN a b d (I 0) m (q+3)
def GO:bS:=λc h u a b m q=>QI c h u a b m (q+1)
def VJ:cV:=λc h u a m q=>(eF a a).bind λb=>some (b,m)
def RT:bS:=λc h u N O m q=>dB N (u,q,3) m λP Q=>dB O (u,q+1,4) Q λb g=>(aD 0 P).bind λx=>(aA true 3 x g).bind λR=>(aA false 1 b g).bind λS=>(bZ S).bind λT=>(aD 1 T).bind λU=>(aD 0 U).bind λl=>(aA false 1 l g).bind λV=>(aM prog jN V).bind λi=>dG mV (u,q+11,7) g λd W=>aU 3 d R W λn=>bif(aW (tR x) (some [],some [(u,q+11,7)])&&(aW (tR b) (some [],some [(u,q+11,7)])&&(aW (tR l) (some [],some [(u,q+11,7)])&&(aW (tR b) (tS d)&&(aW (tR l) (tS d)&&true)))))then (eL i (I 12)).bind λX=>aK X (some ((I 16),n)) ((aD 0 d).bind λY=>(aA false 1 Y n).bind λZ=>(eO c qY [Z,(AV.clo uJ [b]),i] n).bind λo=>(aD 1 d).bind λaa=>(aA false 1 aa o.2).bind λab=>(aI c qV [ab,(I 0),(I 100000)] o.2).bind λf=>aL f.1 true (aD 2 d) f.2 λp=>aL f.1 true (aA false 1 p.1 p.2) p.2 λr=>fI f.1 true (aI c qW [r.1,(I 100000)] r.2) r.2 λy=>(bX f.1 y.1 (B false)).bind λac=>(aI c pB [ac] y.2).bind λz=>cQ pY [(0,1,o.1),(1,1,z.1)] 2 1 (u,q+30,34) z.2 λad ae=>(aI c uK [ad] ae).bind λj=>(eF j.1 (I 0)).bind λaf=>aK af (some (j.1,j.2)) ((eS i (I 0)).bind λa=>aL a true (aD 1 d) j.2 λs=>aL a true (aA false 1 s.1 s.2) s.2 λt=>aL a true (aA false 1 b t.2) t.2 λA=>aL a true (bZ A.1) A.2 λC=>aL a true (aD 1 C.1) C.2 λD=>aL a true (aD 0 D.1) D.2 λv=>aL a true (aA false 1 v.1 v.2) v.2 λE=>bL a true i E.2 λF=>aL a true (eQ F.1 (I 1)) F.2 λG=>aL a true (aR 3 E.1 G.1) G.2 λH=>aL a true (aD 1 H.1) H.2 λw=>aL a true (aA false 1 w.1 w.2) w.2 λJ=>aL a true (iM t.1 J.1) J.2 λe=>(bX a e.1 (B false)).bind λag=>aK ag (some ((I 9),e.2)) ((aA false 1 b e.2).bind λah=>(aA false 1 b e.2).bind λai=>(bZ ai).bind λaj=>(aD 1 aj).bind λak=>(aD 0 ak).bind λK=>(aA false 1 K e.2).bind λal=>(aI c Q1 [al] e.2).bind λk=>(aA true 3 d k.2).bind λam=>cQ mV [(0,3,am)] 1 3 (u,q+60,64) k.2 λL M=>cJ 3 32 (u,q+61,65) (elems M.get 3 L) k.1 M λan ao=>(bZ ah).bind λap=>(aD 1 ap).bind λaq=>(aD 0 aq).bind λar=>aU 1 ar an ao λau=>bif(aW (tR b) (some [],some [(u,q+60,64)])&&(aW (tR b) (some [],some [(u,q+60,64)])&&(aW (tR K) (some [],some [(u,q+60,64)])&&(aW (tR b) (tX L,tA (u,q+61,65) k.1)&&true))))then some ((I 0),au)else none)))else none
def RS:bS:=λc h u a b m q=>(aA false 1 b m).bind λd=>(bZ d).bind λe=>(aD 1 e).bind λf=>(aD 0 f).bind λg=>(aA false 1 g m).bind λi=>(aR 3 i a).bind λj=>(aD 0 j).bind λk=>(aA false 1 k m).bind λl=>some (l,m)
def RE:cV:=λc h u a m q=>(aM prog jN a).bind λb=>(aM prog jN a).bind λd=>(nC prog jN a none b d).bind λe=>some (e,m)
def RV:bS:=λc h u J d m q=>dB J (u,q,3) m λe n=>(bZ d).bind λt=>(aA true 5 t n).bind λK=>(aD 0 e).bind λv=>(aA false 1 v n).bind λL=>(eO c wB [K,L] n).bind λf=>(bZ d).bind λw=>(aA true 5 w f.2).bind λM=>(aD 1 e).bind λx=>(aA false 1 x f.2).bind λN=>(eO c wA [M,N] f.2).bind λg=>(bZ d).bind λy=>(aA true 5 y g.2).bind λO=>(aD 2 e).bind λz=>(aA false 1 z g.2).bind λP=>(eO c wA [O,P] g.2).bind λo=>(aD 3 e).bind λA=>(aA false 1 A o.2).bind λQ=>(cY pX [(0,1,f.1),(1,1,g.1),(2,1,o.1),(3,1,Q)]).bind λR=>dG pX (u,q+23,7) o.2 λa S=>aU 4 a R S λC=>bif(aW (tR t) (some [],some [(u,q+23,7)])&&(aW (tR v) (some [],some [(u,q+23,7)])&&(aW (tR w) (some [],some [(u,q+23,7)])&&(aW (tR x) (some [],some [(u,q+23,7)])&&(aW (tR y) (some [],some [(u,q+23,7)])&&(aW (tR z) (some [],some [(u,q+23,7)])&&(aW (tR A) (some [],some [(u,q+23,7)])&&true)))))))then (aD 0 a).bind λT=>(aA false 1 T C).bind λU=>(cC U (I 0)).bind λi=>aL i false (aD 1 a) C λp=>aL i false (aA false 1 p.1 p.2) p.2 λD=>aL i false (cC D.1 (I 0)) D.2 λE=>(bX i (B true) E.1).bind λj=>aL j false (aD 2 a) E.2 λr=>aL j false (aA false 1 r.1 r.2) r.2 λF=>aL j false (cC F.1 (I 0)) F.2 λb=>(bX j (B true) b.1).bind λV=>aK V (some ((I 6),b.2)) ((aD 1 a).bind λW=>(aA false 1 W b.2).bind λX=>(aD 2 a).bind λY=>(aA false 1 Y b.2).bind λZ=>(kD X Z).bind λaa=>aK aa (some ((I 9),b.2)) ((bZ d).bind λab=>(aD 1 ab).bind λac=>(aD 1 ac).bind λad=>(aA false 1 ad b.2).bind λae=>(eO c P7 [ae,(AV.clo pC [a])] b.2).bind λk=>aK k.1 (some ((I 28),k.2)) ((aD 3 a).bind λaf=>(aA false 1 af k.2).bind λag=>(aI c qW [ag,(I 100000)] k.2).bind λl=>(dU l.1).bind λah=>aK ah (some ((I 2),l.2)) ((bZ d).bind λai=>(aD 1 ai).bind λaj=>(aD 1 aj).bind λG=>(aA false 1 G l.2).bind λak=>(aI c CZ [ak] l.2).bind λs=>(aA true 4 a s.2).bind λal=>cQ pX [(0,4,al)] 1 4 (u,q+66,70) s.2 λam H=>cJ 4 32 (u,q+67,71) (elems H.get 4 am) s.1 H λan ao=>(bZ d).bind λap=>(aD 1 ap).bind λaq=>(aD 1 aq).bind λar=>aU 1 ar an ao λau=>bif(aW (tR G) (some [],some [(u,q+66,70)])&&true)then some ((I 0),au)else none))))else none
def TI:bS:=λc h u d e m q=>dB d (u,q,2) m λf g=>dB e (u,q+1,3) g λi a=>(aD 1 f).bind λj=>(aD 0 j).bind λk=>(aA false 1 k a).bind λl=>(eO c A8 [l,(AV.clo B4 [i])] a).bind λb=>some (b.1,b.2)
def QW:bS:=λc h u b d m q=>(eO c P3 [b,d] m).bind λa=>(kD a.1 (I 0)).bind λe=>some (e,a.2)
def RU:bS:=λc h u t d m q=>dB t (u,q,2) m λe f=>(aD 0 e).bind λv=>(aA false 1 v f).bind λw=>(aD 0 d).bind λx=>(aA false 1 x f).bind λy=>(eL w y).bind λa=>aL a true (aD 1 e) f λg=>aL a true (aA false 1 g.1 g.2) g.2 λl=>aL a true (aD 1 d) l.2 λi=>aL a true (aA false 1 i.1 i.2) i.2 λn=>aL a true (eL l.1 n.1) n.2 λo=>(bX a o.1 (B false)).bind λb=>aL b true (aD 2 e) o.2 λj=>aL b true (aA false 1 j.1 j.2) j.2 λp=>aL b true (aD 2 d) p.2 λk=>aL b true (aA false 1 k.1 k.2) k.2 λr=>aL b true (eL p.1 r.1) r.2 λs=>(bX b s.1 (B false)).bind λz=>some (z,s.2)
def RF:cV:=λc h u a m q=>(aM prog mW a).bind λb=>(aM prog mW a).bind λd=>(nC prog mW a none b d).bind λe=>some (e,m)
def TH:bS:=λc h u b d m q=>dB b (u,q,2) m λe a=>(aD 0 e).bind λf=>(aA false 1 f a).bind λg=>(aA false 1 d a).bind λi=>(bY prog .eql bK (.tmp 5) (.tmp 6) g i).bind λj=>some (j,a)
def xi1:jI:=λc h u m q=>some ((I (-1)),m)
def xi0(c:aJ)(h:FHs)(u:Nat)(r:cB):cB:=λd e f a m q=>(cC a f).bind λg=>aK g ((aR 4 d a).bind λi=>(aA true 4 i m).bind λj=>(fL c h 2 e [j] m).bind λb=>aK b.1 (some (a,b.2)) ((bJ a (I 1)).bind λk=>r d e f k b.2 (q+11))) (xi1 c h u m (q+1))
def MN(c:aJ)(h:FHs)(u:Nat):Nat->cB
 |0=>λ_ _ _ _ _ _=>none
 |n+1=>xi0 c h u (MN c h u n)
def sq:bS:=λc h u a b m q=>(aM prog mW a).bind λd=>MN c h u NN a b d (I 0) m (q+3)
def QM:bS:=λc h u a b m q=>sq c h u a b m (q+1)
def TA:jI:=λc h u m q=>some ((I 0),m)
def GW(c:aJ)(h:FHs)(u:Nat)(r:dS):dS:=λa b d e f m q=>(bJ f (I 1)).bind λg=>r a b d e g m (q+2)
def uj(c:aJ)(h:FHs)(u:Nat)(r:dS):dS:=λe b d g f m q=>(bZ e).bind λi=>(aD 1 i).bind λj=>(aD 1 j).bind λk=>(aA false 1 k m).bind λl=>(aR 4 l f).bind λa=>(bZ a).bind λn=>(aD 2 n).bind λo=>(aA false 1 o m).bind λp=>(eL d p).bind λs=>aK s ((bZ a).bind λt=>(aD 3 t).bind λv=>(aA false 1 v m).bind λw=>(aD 1 b).bind λx=>(aA false 1 x m).bind λy=>(bJ w y).bind λz=>(bZ a).bind λA=>(aD 3 A).bind λB=>aU 1 B z m λC=>GW c h u r e b d g f C (q+27)) ((bZ a).bind λD=>(aD 1 D).bind λE=>(aA false 1 E m).bind λF=>(eL d F).bind λG=>aK G ((bZ a).bind λH=>(aD 3 H).bind λI=>(aA false 1 I m).bind λJ=>(aD 1 b).bind λK=>(aA false 1 K m).bind λL=>(eQ J L).bind λM=>(bZ a).bind λN=>(aD 3 N).bind λO=>aU 1 O M m λP=>GW c h u r e b d g f P (q+33)) (GW c h u r e b d g f m (q+23)))
def GV(c:aJ)(h:FHs)(u:Nat)(r:dS):dS:=λd e f a b m q=>(cC b a).bind λg=>aK g (uj c h u r d e f a b m (q+1)) (TA c h u m (q+1))
def xB(c:aJ)(h:FHs)(u:Nat):Nat->dS
 |0=>λ_ _ _ _ _ _ _=>none
 |n+1=>GV c h u (xB c h u n)
def ui:gB:=λc h u a b d m q=>(bZ a).bind λe=>(aD 1 e).bind λf=>(aD 1 f).bind λg=>(aA false 1 g m).bind λi=>(aM prog mW i).bind λj=>xB c h u NN a b d j (I 0) m (q+7)
def SZ:bS:=λc h u i b m q=>dB i (u,q,3) m λe f=>(bZ b).bind λj=>(aA true 5 j f).bind λk=>(aD 0 e).bind λl=>(aA false 1 l f).bind λn=>(eO c wA [k,n] f).bind λa=>(cC a.1 (I 0)).bind λo=>aK o (some ((I 6),a.2)) ((aD 1 e).bind λp=>(aA false 1 p a.2).bind λr=>(aI c qW [r,(I 10000)] a.2).bind λd=>(dU d.1).bind λs=>aK s (some ((I 2),d.2)) ((bZ b).bind λt=>(aD 1 t).bind λv=>(aD 1 v).bind λw=>(aA false 1 w d.2).bind λx=>(tZ c yD [x] d.2).bind λg=>(bZ b).bind λy=>(aD 1 y).bind λz=>(aD 1 z).bind λA=>aU 1 A g.1 g.2 λB=>ui c h u b e a.1 B (q+28)))
def SF:gB:=λc h u H b J m q=>dB H (u,q,3) m λe n=>(bZ b).bind λt=>(aA true 5 t n).bind λK=>(aD 0 e).bind λv=>(aA false 1 v n).bind λL=>(eO c wB [K,L] n).bind λf=>(bZ b).bind λw=>(aA true 5 w f.2).bind λM=>(aD 1 e).bind λx=>(aA false 1 x f.2).bind λN=>(eO c wA [M,N] f.2).bind λg=>(aD 2 e).bind λy=>(aA false 1 y g.2).bind λO=>(aD 3 e).bind λz=>(aA false 1 z g.2).bind λP=>(cY vF [(0,1,J),(1,1,f.1),(2,1,g.1),(3,1,O),(4,1,P)]).bind λQ=>dG vF (u,q+20,7) g.2 λa R=>aU 5 a Q R λA=>bif(aW (tR t) (some [],some [(u,q+20,7)])&&(aW (tR v) (some [],some [(u,q+20,7)])&&(aW (tR w) (some [],some [(u,q+20,7)])&&(aW (tR x) (some [],some [(u,q+20,7)])&&(aW (tR y) (some [],some [(u,q+20,7)])&&(aW (tR z) (some [],some [(u,q+20,7)])&&true))))))then (aD 1 a).bind λS=>(aA false 1 S A).bind λT=>(cC T (I 0)).bind λi=>aL i false (aD 2 a) A λo=>aL i false (aA false 1 o.1 o.2) o.2 λC=>aL i false (cC C.1 (I 0)) C.2 λj=>(bX i (B true) j.1).bind λU=>aK U (some ((I 6),j.2)) ((aD 3 a).bind λV=>(aA false 1 V j.2).bind λW=>(aI c qW [W,(I 1000000)] j.2).bind λD=>(dU D.1).bind λd=>aL d false (aD 4 a) D.2 λp=>aL d false (aA false 1 p.1 p.2) p.2 λr=>fI d false (aI c qV [r.1,(I 0),(I 1000000)] r.2) r.2 λE=>aL d false (dU E.1) E.2 λk=>(bX d (B true) k.1).bind λX=>aK X (some ((I 2),k.2)) ((bZ b).bind λY=>(aD 1 Y).bind λZ=>(aD 2 Z).bind λaa=>(aA false 1 aa k.2).bind λab=>(eO c P8 [ab,(AV.clo pD [a])] k.2).bind λl=>aK l.1 (some ((I 28),l.2)) ((bZ b).bind λac=>(aD 1 ac).bind λad=>(aD 2 ad).bind λF=>(aA false 1 F l.2).bind λae=>(aI c DA [ae] l.2).bind λs=>(aA true 5 a s.2).bind λaf=>cQ vF [(0,5,af)] 1 5 (u,q+58,62) s.2 λag G=>cJ 5 40 (u,q+59,63) (elems G.get 5 ag) s.1 G λah ai=>(bZ b).bind λaj=>(aD 1 aj).bind λak=>(aD 2 ak).bind λal=>aU 1 al ah ai λam=>bif(aW (tR F) (some [],some [(u,q+58,62)])&&true)then some ((I 0),am)else none)))else none
def QX:bS:=λc h u b d m q=>(eO c P4 [b,d] m).bind λa=>(kD a.1 (I 0)).bind λe=>some (e,a.2)
def SE:bS:=λc h u l f m q=>dB l (u,q,2) m λg b=>(aD 1 g).bind λn=>(aA false 1 n b).bind λo=>(aD 1 f).bind λp=>(aA false 1 p b).bind λr=>(eL o r).bind λa=>aL a true (aD 2 g) b λd=>aL a true (aA false 1 d.1 d.2) d.2 λi=>aL a true (aD 2 f) i.2 λe=>aL a true (aA false 1 e.1 e.2) e.2 λj=>aL a true (eL i.1 j.1) j.2 λk=>(bX a k.1 (B false)).bind λs=>some (s,k.2)
def RG:cV:=λc h u a m q=>(aM prog l9 a).bind λb=>(aM prog l9 a).bind λd=>(nC prog l9 a none b d).bind λe=>some (e,m)
def xi3:jI:=λc h u m q=>some ((I (-1)),m)
def xi2(c:aJ)(h:FHs)(u:Nat)(r:cB):cB:=λd e f a m q=>(cC a f).bind λg=>aK g ((aR 5 d a).bind λi=>(aA true 5 i m).bind λj=>(fL c h 2 e [j] m).bind λb=>aK b.1 (some (a,b.2)) ((bJ a (I 1)).bind λk=>r d e f k b.2 (q+11))) (xi3 c h u m (q+1))
def MO(c:aJ)(h:FHs)(u:Nat):Nat->cB
 |0=>λ_ _ _ _ _ _=>none
 |n+1=>xi2 c h u (MO c h u n)
def sr:bS:=λc h u a b m q=>(aM prog l9 a).bind λd=>MO c h u NN a b d (I 0) m (q+3)
def QN:bS:=λc h u a b m q=>sr c h u a b m (q+1)
def TB:bS:=λc h u r d m q=>(bZ d).bind λs=>(aA true 5 s m).bind λt=>(eO c wD [t,r] m).bind λb=>(cC b.1 (I 0)).bind λv=>aK v (some ((I 6),b.2)) ((bZ d).bind λw=>(aD 1 w).bind λx=>(aD 3 x).bind λy=>(aA false 1 y b.2).bind λz=>(aI c yB [z,b.1] b.2).bind λa=>bL a.1 false d a.2 λi=>aL a.1 false (bZ i.1) i.2 λf=>aL a.1 false (aA true 5 f.1 f.2) f.2 λj=>bL a.1 false b.1 j.2 λg=>fI a.1 false (aI c B8 [j.1,g.1] g.2) g.2 λk=>aL a.1 false (L7 false 1 0 k.1) k.2 λl=>aL a.1 false (eF l.1 (I 2)) l.2 λe=>(bX a.1 (B true) e.1).bind λA=>aK A (some ((I 24),e.2)) ((bZ d).bind λC=>(aD 1 C).bind λD=>(aD 3 D).bind λE=>(aA false 1 E e.2).bind λF=>(aI c CY [F] e.2).bind λn=>cQ hY [(0,1,b.1)] 1 1 (u,q+35,41) n.2 λG o=>cJ 1 8 (u,q+36,42) (elems o.get 1 G) n.1 o λH J=>(bZ d).bind λK=>(aD 1 K).bind λL=>(aD 3 L).bind λM=>aU 1 M H J λp=>(bZ d).bind λN=>(aD 1 N).bind λO=>(aD 3 O).bind λP=>(aA false 1 P p).bind λQ=>(c h A0 [Q] p).bind λR=>some ((I 0),R.2)))
def QT:bS:=λc h u b d m q=>(aI c CQ [b,d] m).bind λa=>(kD a.1 (I 0)).bind λe=>some (e,a.2)
def RD:cV:=λc h u a m q=>(aM prog fA a).bind λb=>(aM prog fA a).bind λd=>(nC prog fA a none b d).bind λe=>some (e,m)
def sk:jI:=λc h u m q=>some ((I (-1)),m)
def QF(c:aJ)(h:FHs)(u:Nat)(r:cB):cB:=λb d e a m q=>(cC a e).bind λf=>aK f ((aR 1 b a).bind λg=>(aA false 1 g m).bind λi=>(eL d i).bind λj=>aK j (some (a,m)) ((bJ a (I 1)).bind λk=>r b d e k m (q+11))) (sk c h u m (q+1))
def X8(c:aJ)(h:FHs)(u:Nat):Nat->cB
 |0=>λ_ _ _ _ _ _=>none
 |n+1=>QF c h u (X8 c h u n)
def sj:bS:=λc h u a b m q=>(aM prog fA a).bind λd=>X8 c h u NN a b d (I 0) m (q+3)
def QE:bS:=λc h u a b m q=>sj c h u a b m (q+1)
def TD:bS:=λc h u t b m q=>(bZ b).bind λv=>(aA true 5 v m).bind λw=>(eO c wD [w,t] m).bind λk=>dG hY (u,q+6,7) k.2 λd x=>aU 1 d k.1 x λe=>(aA false 1 d e).bind λy=>(cC y (I 0)).bind λz=>aK z (some ((I 6),e)) ((bZ b).bind λA=>(aD 1 A).bind λC=>(aD 3 C).bind λD=>(aA false 1 D e).bind λE=>(aA false 1 d e).bind λF=>(aI c yB [E,F] e).bind λl=>(dU l.1).bind λa=>bL a false b l.2 λn=>aL a false (bZ n.1) n.2 λg=>aL a false (aA true 5 g.1 g.2) g.2 λi=>aL a false (aA false 1 d i.2) i.2 λj=>fI a false (aI c B8 [i.1,j.1] j.2) j.2 λo=>aL a false (L7 false 1 0 o.1) o.2 λp=>aL a false (eL p.1 (I 2)) p.2 λf=>(bX a (B true) f.1).bind λG=>aK G (some ((I 24),f.2)) ((bZ b).bind λH=>(aD 1 H).bind λJ=>(aD 3 J).bind λK=>(aA false 1 K f.2).bind λL=>(tZ c yC [L] f.2).bind λr=>(c h P5 [r.1,(AV.clo rA [d])] r.2).bind λs=>(bZ b).bind λM=>(aD 1 M).bind λN=>(aD 3 N).bind λO=>aU 1 O s.1 s.2 λP=>some ((I 0),P)))
def sx:bS:=λc h u a b m q=>(eK prog fA a (some b) none).bind λd=>BO hY 1 d m λ_ e=>(eK prog fA a none (some b)).bind λf=>some (f,e)
def QR(c:aJ)(h:FHs)(u:Nat)(r:cB):cB:=λa b d e m q=>(bJ e (I 1)).bind λf=>r a b d f m (q+3)
def sw(c:aJ)(h:FHs)(u:Nat)(r:cB):cB:=λa b d e m q=>(aR 1 a e).bind λi=>(aA false 1 i m).bind λg=>(fL c h 2 b [g] m).bind λf=>(dU f.1).bind λj=>aK j ((aR 1 a d).bind λk=>aU 1 k g f.2 λl=>(bJ d (I 1)).bind λn=>QR c h u r a b n e l (q+17)) (QR c h u r a b d e f.2 (q+9))
def QQ(c:aJ)(h:FHs)(u:Nat)(r:cB):cB:=λa e b d m q=>(aM prog fA a).bind λf=>(cC d f).bind λg=>aK g (sw c h u r a e b d m (q+4)) (sx c h u a b m (q+4))
def X9(c:aJ)(h:FHs)(u:Nat):Nat->cB
 |0=>λ_ _ _ _ _ _=>none
 |n+1=>QQ c h u (X9 c h u n)
def su:gB:=λc h u b d a m q=>(bJ a (I 1)).bind λe=>X9 c h u NN b d a e m (q+3)
def QP:bS:=λc h u b d m q=>(c h A7 [b,d] m).bind λa=>(eL a.1 (I (-1))).bind λe=>aK e (some (b,a.2)) (su c h u b d a.1 a.2 (q+7))
def TC:bS:=λc h u a b m q=>(aA false 1 b m).bind λd=>(eL a d).bind λe=>some (e,m)
end Go.Ix
