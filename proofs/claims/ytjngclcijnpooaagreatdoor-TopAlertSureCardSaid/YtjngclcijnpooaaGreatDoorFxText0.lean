import Derived.Test.YtjngclcijnpooaaGreatDoorFxConst
set_option linter.all false
open Go.Proofs.Tryz
noncomputable section
namespace Go.Ix
open Go.Proofs
def tl:iM:=λc h u m q=>some ((B true),m)
def PC(c:aK)(h:FHs)(u:Nat)(r:dE):dE:=λa b d e f m q=>(bI f (I 1)).bind λg=>r a b d e g m (q+3)
def HN(c:aK)(h:FHs)(u:Nat)(r:dE)(s:oD):oD:=λa b d e f g i j m q=>(bI j (I 1)).bind λk=>s a b d e f g i k m (q+3)
def tk(c:aK)(h:FHs)(u:Nat)(r:dE)(s:oD):oD:=λb d p t v f g i m q=>(aB 1 f).bind λJ=>(aA false 1 J m).bind λK=>(aT 1 g i).bind λL=>(aA false 1 L m).bind λM=>(dZ c uX [K,M] m).bind λw=>(dL w.1).bind λj=>aJ j true (aB 0 f) w.2 λx=>aJ j true (aA false 1 x.1 x.2) x.2 λD=>aJ j true (eC D.1 (I 0)) D.2 λa=>(bN j a.1 (B false)).bind λN=>aL N (HN c h u r s b d p t v f g i a.2 (q+15)) ((aA true 5 d a.2).bind λy=>(aI c sP [y] a.2).bind λE=>(aI c wG [b] E.2).bind λz=>(aT 1 g i).bind λA=>(aA false 1 A z.2).bind λO=>(aI c S7 [E.1,z.1,O] z.2).bind λk=>(dB k.1 0).bind λl=>(dB k.1 1).bind λad=>(dB k.1 2).bind λP=>bif(Nat.ble 1 (cB 0 [y])&&(Nat.ble 1 (cB 0 [b])&&true))&&(cV (some a.2.next) (tR A) (cB 0 [y])&&(cV (some a.2.next) (tR A) (cB 0 [b])&&true))then (eC P (I 0)).bind λn=>bD n false l k.2 λF=>aJ n false (aN prog fG F.1) F.2 λG=>aJ n false (eQ G.1 (I 12)) G.2 λo=>(bN n (B true) o.1).bind λQ=>aL Q (some ((B false),o.2)) ((aI c EG [l] o.2).bind λC=>(bI C.1 t).bind λR=>(eM R p).bind λS=>(aB 0 d).bind λH=>(aA false 1 H C.2).bind λT=>(jP S T).bind λU=>(aI c FK [U] C.2).bind λe=>bif(Nat.ble 1 (cB 0 [l])&&true)&&(cV (some o.2.next) (tR H) (cB 0 [l])&&true)then (aB 2 d).bind λV=>(aA false 1 V e.2).bind λW=>(aT 3 W v).bind λX=>(aB 2 X).bind λY=>(aA false 1 Y e.2).bind λZ=>(jP (I 8192) Z).bind λaa=>(eQ e.1 aa).bind λab=>(cO prog .neq vQ (.tmp 163) (.tmp 172) w.1 ab).bind λac=>aL ac (some ((B false),e.2)) (HN c h u r s b d p t v f g i e.2 (q+60))else none)else none)
def PB(c:aK)(h:FHs)(u:Nat)(r:dE)(s:oD):oD:=λa b d e f j g i m q=>(aN prog gR g).bind λk=>(bU i k).bind λl=>aL l (tk c h u r s a b d e f j g i m (q+4)) (PC c h u r a b d e f m (q+4))
def zX(c:aK)(h:FHs)(u:Nat)(r:dE):Nat->oD
 |0=>λ_ _ _ _ _ _ _ _ _ _=>none
 |n+1=>PB c h u r (zX c h u r n)
def tj(c:aK)(h:FHs)(u:Nat)(r:dE):dE:=λa b T U t m q=>(aA true 5 b m).bind λg=>(aI c sP [g] m).bind λv=>(aI c wG [a] v.2).bind λi=>(aB 2 b).bind λn=>(aA false 1 n i.2).bind λV=>(aT 3 V t).bind λW=>(aB 0 W).bind λo=>(aA false 1 o i.2).bind λD=>(aI c T0 [v.1,i.1,D] i.2).bind λw=>(dB w.1 0).bind λX=>(dB w.1 1).bind λY=>dH tY (u,q+14,10) w.2 λj Z=>aZ 4 j X Z λk=>bif(Nat.ble 1 (cB 0 [g])&&(Nat.ble 1 (cB 0 [a])&&true))&&(cV (some m.next) (tR n) (cB 0 [g])&&(cV (some m.next) (tR n) (cB 0 [a])&&(cV (some m.next) (tR o) (cB 0 [g])&&(cV (some m.next) (tR o) (cB 0 [a])&&(aY (tR b) (some [],some [(u,q+14,10)])&&(cV (some m.next) (some [],some [(u,q+14,10)]) (cB 0 [g])&&(cV (some m.next) (some [],some [(u,q+14,10)]) (cB 0 [a])&&(aY (tR n) (some [],some [(u,q+14,10)])&&(aY (tR o) (some [],some [(u,q+14,10)])&&(cV (some m.next) (some [],some [(u,q+14,10)]) (cB 0 [v.1,i.1,D])&&true))))))))))then (eC Y (I 0)).bind λaa=>aL aa (some ((B true),k)) ((aA true 5 b k).bind λp=>(aI c sP [p] k).bind λs=>(aB 2 b).bind λE=>(aA false 1 E s.2).bind λab=>(aT 3 ab t).bind λac=>(aB 0 ac).bind λF=>(aA false 1 F s.2).bind λad=>(aI c C3 [s.1,ad] s.2).bind λx=>(dB x.1 0).bind λG=>(dB x.1 1).bind λae=>bif(Nat.ble 1 (cB 0 [p])&&true)&&(cV (some k.next) (tR E) (cB 0 [p])&&(cV (some k.next) (tR F) (cB 0 [p])&&true))then (eC ae (I 0)).bind λd=>aJ d false (aB 0 j) x.2 λy=>aJ d false (aA false 1 y.1 y.2) y.2 λH=>aJ d false (dY H.1 (I 2)) H.2 λJ=>bD d false J.1 J.2 λe=>aJ e.1 true (aB 1 j) e.2 λz=>aJ e.1 true (aA false 1 z.1 z.2) z.2 λK=>aJ e.1 true (aN prog gR K.1) K.2 λL=>aJ e.1 true (dY L.1 (I 0)) L.2 λM=>aJ d false (bN e.1 M.1 (B false)) M.2 λN=>(bN d (B true) N.1).bind λf=>aJ f false (aB 0 j) N.2 λA=>aJ f false (aA false 1 A.1 A.2) A.2 λO=>aJ f false (dY O.1 (I 0)) O.2 λP=>bD f false P.1 P.2 λl=>bD l.1 true G l.2 λQ=>aJ l.1 true (aN prog gR Q.1) Q.2 λR=>aJ l.1 true (dY R.1 (I 0)) R.2 λS=>aJ f false (bN l.1 S.1 (B false)) S.2 λC=>(bN f (B true) C.1).bind λaf=>aL af (some ((B false),C.2)) (zX c h u r NN a b T U t j G (I 0) C.2 (q+57))else none)else none
def PA(c:aK)(h:FHs)(u:Nat)(r:dE):dE:=λd a e f b m q=>(aB 2 a).bind λg=>(aA false 1 g m).bind λi=>(aN prog nC i).bind λj=>(bU b j).bind λk=>aL k (tj c h u r d a e f b m (q+5)) (tl c h u m (q+5))
def zY(c:aK)(h:FHs)(u:Nat):Nat->dE
 |0=>λ_ _ _ _ _ _ _=>none
 |n+1=>PA c h u (zY c h u n)
def tg:nA:=λc h u a b d e m q=>zY c h u NN a b d e (I 0) m (q+1)
def OZ:gB:=λc h u D v E m q=>cD D (u,q,3) m λb F=>cD E (u,q+1,5) F λw G=>(aI c bv [] G).bind λg=>(dL g.1).bind λH=>aL H (some ((B false),g.2)) ((aA true 5 b g.2).bind λJ=>(aI c T1 [J] g.2).bind λx=>(dL x.1).bind λi=>bD i false v x.2 λn=>eR i false (aI c EZ [n.1] n.2) n.2 λy=>aJ i false (dL y.1) y.2 λo=>(bN i (B true) o.1).bind λj=>aJ j false (aA true 5 b o.2) o.2 λp=>eR j false (aI c R3 [p.1] p.2) p.2 λz=>aJ j false (eC z.1 (I 0)) z.2 λa=>(bN j (B true) a.1).bind λK=>aL K (some ((B true),a.2)) ((oI 2 1 w (I 0)).bind λL=>(aA false 1 L a.2).bind λd=>(aB 1 b).bind λM=>(aA false 1 M a.2).bind λN=>(jP (I 2) N).bind λO=>(bI O (I 1)).bind λe=>(aI c T7 [d,e] a.2).bind λf=>(aB 1 b).bind λr=>(aA false 1 r f.2).bind λP=>(eM f.1 P).bind λQ=>(oI 2 1 w (I 1)).bind λA=>(aA false 1 A f.2).bind λk=>(aB 1 b).bind λC=>(aA false 1 C f.2).bind λR=>(jP (I 2) R).bind λS=>(bI S (I 1)).bind λl=>(aI c T7 [k,l] f.2).bind λs=>(aB 1 b).bind λt=>(aA false 1 t s.2).bind λT=>(eM s.1 T).bind λU=>bif(Nat.ble 1 (cB 0 [d,e])&&(Nat.ble 1 (cB 0 [k,l])&&true))&&(cV (some a.2.next) (tR r) (cB 0 [d,e])&&(cV (some a.2.next) (tR A) (cB 0 [d,e])&&(cV (some a.2.next) (tR C) (cB 0 [d,e])&&(cV none (tR r) (cB 0 [k,l])&&(cV (some a.2.next) (tR t) (cB 0 [d,e])&&(cV (some a.2.next) (tR t) (cB 0 [k,l])&&true))))))then tg c h u v b Q U s.2 (q+40)else none))
def zu:iM:=λc h u m q=>some ((B true),m)
def WQ(c:aK)(h:FHs)(u:Nat)(r:lV):lV:=λa b m q=>(aB 4 a).bind λd=>(aA false 1 d m).bind λe=>(aN prog pG e).bind λf=>(bU b f).bind λg=>aL g ((aB 4 a).bind λi=>(aA false 1 i m).bind λj=>(aT 2 j b).bind λk=>(aB 0 k).bind λl=>(aA false 1 l m).bind λn=>(fL n).bind λo=>(eQ o (I 20)).bind λp=>aL p (some ((B false),m)) ((bI b (I 1)).bind λs=>r a s m (q+16))) (zu c h u m (q+5))
def AK(c:aK)(h:FHs)(u:Nat):Nat->lV
 |0=>λ_ _ _ _=>none
 |n+1=>WQ c h u (AK c h u n)
def zt:cI:=λc h u a m q=>AK c h u NN a (I 0) m (q+1)
def WP(c:aK)(h:FHs)(u:Nat)(s:lV):lV:=λa b m q=>(aB 3 a).bind λd=>(aA false 1 d m).bind λe=>(aN prog qP e).bind λf=>(bU b f).bind λg=>aL g ((aB 3 a).bind λi=>(aA false 1 i m).bind λj=>(aT 4 j b).bind λk=>(aB 0 k).bind λl=>(aA false 1 l m).bind λn=>(fL n).bind λo=>(eQ o (I 20)).bind λp=>aL p (some ((B false),m)) ((bI b (I 1)).bind λr=>s a r m (q+16))) (zt c h u a m (q+5))
def AJ(c:aK)(h:FHs)(u:Nat):Nat->lV
 |0=>λ_ _ _ _=>none
 |n+1=>WP c h u (AJ c h u n)
def zr:cI:=λc h u a m q=>AJ c h u NN a (I 0) m (q+1)
def WO(c:aK)(h:FHs)(u:Nat)(w:lV):lV:=λb d m q=>(aB 2 b).bind λo=>(aA false 1 o m).bind λp=>(aN prog nC p).bind λr=>(bU d r).bind λs=>aL s ((aB 2 b).bind λt=>(aA false 1 t m).bind λv=>(aT 3 v d).bind λx=>(aB 0 x).bind λy=>(aA false 1 y m).bind λz=>(fL z).bind λA=>(eQ A (I 20)).bind λa=>aJ a false (aB 2 b) m λe=>aJ a false (aA false 1 e.1 e.2) e.2 λi=>bD a false d i.2 λj=>aJ a false (aT 3 i.1 j.1) j.2 λk=>aJ a false (aB 1 k.1) k.2 λf=>aJ a false (aA false 1 f.1 f.2) f.2 λl=>aJ a false (aN prog pF l.1) l.2 λn=>aJ a false (eQ n.1 (I 22)) n.2 λg=>(bN a (B true) g.1).bind λC=>aL C (some ((B false),g.2)) ((bI d (I 1)).bind λD=>w b D g.2 (q+26))) (zr c h u b m (q+5))
def AH(c:aK)(h:FHs)(u:Nat):Nat->lV
 |0=>λ_ _ _ _=>none
 |n+1=>WO c h u (AH c h u n)
def zq:cI:=λc h u a m q=>AH c h u NN a (I 0) m (q+1)
def WN:cI:=λc h u p m q=>cD p (u,q,1) m λd i=>(aB 2 d).bind λr=>(aA false 1 r i).bind λs=>(aN prog nC s).bind λt=>(eQ t (I 8)).bind λa=>aJ a false (aB 3 d) i λe=>aJ a false (aA false 1 e.1 e.2) e.2 λj=>aJ a false (aN prog qP j.1) j.2 λk=>aJ a false (eQ k.1 (I 10)) k.2 λl=>(bN a (B true) l.1).bind λb=>aJ b false (aB 4 d) l.2 λf=>aJ b false (aA false 1 f.1 f.2) f.2 λn=>aJ b false (aN prog pG n.1) n.2 λo=>aJ b false (eQ o.1 (I 12)) o.2 λg=>(bN b (B true) g.1).bind λv=>aL v (some ((B false),g.2)) (zq c h u d g.2 (q+18))
def zx:cI:=λc h u d m q=>(aN prog vP d).bind λn=>(iT n (I 20)).bind λa=>bD a false d m λe=>aJ a false (aN prog vP e.1) e.2 λf=>aJ a false (eQ f.1 (I 40)) f.2 λg=>bD a false g.1 g.2 λb=>bD b.1 true d b.2 λi=>aJ b.1 true (aN prog vP i.1) i.2 λj=>aJ b.1 true (iT j.1 (I 42)) j.2 λk=>aJ a false (bN b.1 k.1 (B false)) k.2 λl=>(bN a (B true) l.1).bind λo=>some (o,l.2)
def WS(c:aK)(h:FHs)(u:Nat)(r:lV):lV:=λb d m q=>(aN prog vP b).bind λn=>(bU d n).bind λo=>aL o ((aT 2 b d).bind λp=>(aB 0 p).bind λs=>(aA false 1 s m).bind λt=>(fL t).bind λv=>(eQ v (I 20)).bind λa=>bD a false b m λg=>bD a false d g.2 λi=>aJ a false (aT 2 g.1 i.1) i.2 λj=>aJ a false (aB 1 j.1) j.2 λe=>aJ a false (aA false 1 e.1 e.2) e.2 λk=>aJ a false (fL k.1) k.2 λl=>aJ a false (eQ l.1 (I 220)) l.2 λf=>(bN a (B true) f.1).bind λw=>aL w (some ((B false),f.2)) ((bI d (I 1)).bind λx=>r b x f.2 (q+23))) (zx c h u b m (q+4))
def AL(c:aK)(h:FHs)(u:Nat):Nat->lV
 |0=>λ_ _ _ _=>none
 |n+1=>WS c h u (AL c h u n)
def zw:cI:=λc h u a m q=>AL c h u NN a (I 0) m (q+1)
def WR:cI:=λc h u a m q=>zw c h u a m (q+1)
def TM:cI:=λc h u o m q=>cD o (u,q,1) m λa j=>(aB 0 a).bind λp=>(aA false 1 p j).bind λr=>(aI c rR [r,(I 1),(I 10000)] j).bind λk=>(dL k.1).bind λb=>aJ b false (aB 1 a) k.2 λg=>aJ b false (aA false 1 g.1 g.2) g.2 λi=>eR b false (aI c rR [i.1,(I 0),(I 2048)] i.2) i.2 λl=>aJ b false (dL l.1) l.2 λf=>(bN b (B true) f.1).bind λs=>aL s (some ((I 2),f.2)) ((aA true 5 a f.2).bind λt=>(aI c EF [t] f.2).bind λd=>(eC d.1 (I 0)).bind λv=>aL v (some (d.1,d.2)) ((aA true 5 a d.2).bind λw=>(aI c EC [w] d.2).bind λe=>(eC e.1 (I 0)).bind λx=>aL x (some (e.1,e.2)) ((aA true 5 a e.2).bind λy=>(aI c ED [y] e.2).bind λn=>some (n.1,n.2))))
def IT:cI:=λc h u a m q=>some (a,m)
def Z':bR:=λc h u a b m q=>(bU a (I 0)).bind λd=>aL d ((bI a b).bind λe=>IT c h u e m (q+6)) (IT c h u a m (q+2))
def XR:bR:=λc h u b a m q=>(oG b a).bind λd=>Z' c h u d a m (q+5)
def WK:gB:=λc h u n o p m q=>cD n (u,q,3) m λr s=>dH tY (u,q+1,6) s λa e=>(aA true 5 r e).bind λt=>(aI c wH [t,o] e).bind λb=>(dB b.1 0).bind λf=>(dB b.1 1).bind λF=>(dB b.1 2).bind λg=>(eC g (I 0)).bind λv=>aL v ((cW tY []).bind λw=>aZ 4 a w b.2 λi=>(gT true 4 a i).bind λr0=>some (AV.tup [r0,g],i)) ((cA f).bind λx=>(aB 2 x).bind λy=>(aA true 5 y b.2).bind λz=>(dZ c oO [z,p] b.2).bind λd=>(bU d.1 (I 0)).bind λA=>aL A ((cW tY []).bind λB=>aZ 4 a B d.2 λj=>(gT true 4 a j).bind λr0=>some (AV.tup [r0,(I 6)],j)) ((cA f).bind λC=>(aB 2 C).bind λD=>(aA true 5 D d.2).bind λE=>(aI c wN [E,d.1] d.2).bind λk=>aZ 4 a k.1 k.2 λl=>(gT true 4 a l).bind λr0=>some (AV.tup [r0,(I 0)],l)))
def TK:bR:=λc h u a j m q=>dC l9 [] 0 4 (u,q,29) m λd e=>(aB 3 a).bind λf=>(aA false 1 f e).bind λg=>cX 4 40 (u,q+3,32) (elems e.get 4 g) d e λn o=>dC YH [] 0 2 (u,q+4,33) o λp i=>(aB 4 a).bind λb=>(aA false 1 b i).bind λr=>cX 2 24 (u,q+7,36) (elems i.get 2 r) p i λs t=>(aB 3 a).bind λv=>aZ 1 v n t λw=>(aB 4 a).bind λx=>aZ 1 x s w λk=>bif(aY (some [],some [(u,q,29)]) (tR f)&&(aY (some [],some [(u,q,29)]) (some [],some [(u,q+4,33)])&&(aY (tR f) (some [],some [(u,q+4,33)])&&(aY (tX g,tA (u,q+3,32) d) (some [],some [(u,q+4,33)])&&(aY (some [],some [(u,q,29)]) (tR b)&&(aY (tX g,tA (u,q+3,32) d) (tR b)&&(aY (some [],some [(u,q+4,33)]) (tR b)&&true)))))))then (aA true 5 a k).bind λy=>aZ 5 j y k λl=>(gT true 5 j l).bind λr0=>some (r0,l)else none
def TJ(c:aK)(h:FHs)(u:Nat)(r:dK):dK:=λa f b m q=>(aB 2 a).bind λl=>(aA false 1 l m).bind λn=>(aN prog nC n).bind λo=>(bU b o).bind λp=>aL p ((aB 2 a).bind λe=>(aA false 1 e m).bind λs=>dC xQ [] 0 3 (u,q+8,19) m λg d=>(aB 2 a).bind λi=>(aA false 1 i d).bind λt=>(aT 3 t b).bind λv=>(aB 1 v).bind λj=>(aA false 1 j d).bind λk=>cX 3 24 (u,q+15,26) (elems d.get 3 k) g d λw x=>(aT 3 s b).bind λy=>(aB 1 y).bind λz=>aZ 1 z w x λA=>bif(aY (tR e) (some [],some [(u,q+8,19)])&&(aY (some [],some [(u,q+8,19)]) (tR i)&&(aY (some [],some [(u,q+8,19)]) (tR j)&&(aY (tR e) (tX k,tA (u,q+15,26) g)&&true))))then (bI b (I 1)).bind λB=>r a f B A (q+22)else none) (TK c h u a f m (q+5))
def Z8(c:aK)(h:FHs)(u:Nat):Nat->dK
 |0=>λ_ _ _ _ _=>none
 |n+1=>TJ c h u (Z8 c h u n)
def xl:bR:=λc h u a b m q=>Z8 c h u NN a b (I 0) m (q+1)
def TI:cI:=λc h u d m q=>cD d (u,q,1) m λa e=>dH l8 (u,q+1,2) e λf g=>dC BI [] 0 3 (u,q+2,4) g λi b=>(aB 2 a).bind λj=>(aA false 1 j b).bind λk=>cX 3 48 (u,q+5,7) (elems b.get 3 k) i b λl n=>(aB 2 a).bind λo=>aZ 1 o l n λp=>xl c h u a f p (q+8)
def TL:cI:=λc h u b m q=>dC JE [] 0 2 (u,q+1,3) m λd a=>cX 2 32 (u,q+3,5) (elems a.get 2 b) d a λe f=>some (e,f)
def zh:cI:=λc h u a m q=>(aA false 1 a m).bind λb=>some (AV.tup [b,(I 0)],m)
def zg:xlb:=λc h u d a e m q=>(aA false 1 a m).bind λf=>(aB 3 d).bind λg=>(aA false 1 g m).bind λi=>(aT 4 i e).bind λj=>(aB 0 j).bind λk=>(aA false 1 k m).bind λl=>dC lW [(0,1,l)] 1 1 (u,q+7,36) m λn b=>cX 1 16 (u,q+8,37) (elems b.get 1 n) f b λo p=>aZ 1 a o p λr=>bif(aY (tR a) (some [],some [(u,q+7,36)])&&true)then some r else none
def IM:xlb:=λc h u a b d m q=>zg c h u a b d m (q+1)
def zf:gB:=λc h u b a d m q=>rD d λg caps=>(c (((u,q,0),λargs m=>bif Nat.beq args.length 1&&true then IM c h m.next b a (args.getD 0 U) ⟨m.hp,m.next+1⟩ 0 else none)::h) g (.yld (u,q,0)::caps) m).bind λp=>zh c h u a p.2 (q+1)
def ze:nA:=λc h u b d e f m q=>(aA true 5 d m).bind λg=>(aI c wL [g,e] m).bind λa=>zf c h u b f a.1 a.2 (q+3)
def VZ:bR:=λc h u j k m q=>cD j (u,q,2) m λd g=>(aA true 5 d g).bind λl=>(aI c yR [l] g).bind λa=>(eC a.1 (I 0)).bind λn=>aL n (some (AV.tup [nilS,a.1],a.2)) ((c h B8 [d] a.2).bind λe=>(cA e.1).bind λo=>(aB 2 o).bind λp=>(aA true 5 p e.2).bind λr=>dH jY (u,q+12,7) e.2 λf s=>aZ 5 f r s λi=>(aA true 5 f i).bind λt=>(dZ c oO [t,k] i).bind λb=>(bU b.1 (I 0)).bind λv=>aL v (some (AV.tup [nilS,(I 6)],b.2)) (dH YB (u,q+20,9) b.2 λw x=>ze c h u d f b.1 w x (q+21)))
def xad:iM:=λc h u m q=>some ((B false),m)
def XU(c:aK)(h:FHs)(u:Nat)(r:dK):dK:=λa d b m q=>(aN prog gR a).bind λe=>(bU b e).bind λf=>aL f ((aT 1 a b).bind λg=>(aA false 1 g m).bind λi=>(cO prog .eql cF (.tmp 15) (.tmp 16) i d).bind λj=>aL j (some ((B true),m)) ((bI b (I 1)).bind λk=>r a d k m (q+13))) (xad c h u m (q+4))
def AP(c:aK)(h:FHs)(u:Nat):Nat->dK
 |0=>λ_ _ _ _ _=>none
 |n+1=>XU c h u (AP c h u n)
def xl0:bR:=λc h u a b m q=>AP c h u NN a b (I 0) m (q+1)
def xac:bR:=λc h u a b m q=>xl0 c h u a b m (q+1)
def WA:gB:=λc h u f g i m q=>cD f (u,q,3) m λj e=>(aA true 5 j e).bind λk=>(aI c B9 [k,g,i] e).bind λa=>(dB a.1 0).bind λl=>(dB a.1 1).bind λn=>(dB a.1 2).bind λo=>dH jY (u,q+12,9) a.2 λp r=>dH lK (u,q+13,10) r λb s=>aZ 5 p l s λt=>aZ 3 b n t λd=>(aB 1 b).bind λv=>(aA false 1 v d).bind λw=>(aB 2 b).bind λx=>(aA false 1 x d).bind λy=>some (AV.tup [w,y,o],d)
def XQ:cI:=λc h u a m q=>(pO a).bind λb=>(yB a b).bind λd=>some (d,m)
def xk:cI:=λc h u a m q=>some (a,m)
def TH(c:aK)(h:FHs)(u:Nat)(r:dK):dK:=λa b d m q=>(bI d (I 1)).bind λe=>r a b e m (q+3)
def xj(c:aK)(h:FHs)(u:Nat)(r:dK):dK:=λa d b m q=>(aT 1 a b).bind λe=>(aA false 1 e m).bind λf=>(eC f (I 1000000000000)).bind λg=>aL g ((aT 1 a b).bind λi=>(aA false 1 i m).bind λj=>TH c h u r a j b m (q+10)) (TH c h u r a d b m (q+5))
def TG(c:aK)(h:FHs)(u:Nat)(r:dK):dK:=λa b d m q=>(aN prog fG a).bind λe=>(bU d e).bind λf=>aL f (xj c h u r a b d m (q+4)) (xk c h u b m (q+4))
def Z7(c:aK)(h:FHs)(u:Nat):Nat->dK
 |0=>λ_ _ _ _ _=>none
 |n+1=>TG c h u (Z7 c h u n)
def xi:bR:=λc h u a b m q=>Z7 c h u NN a b (I 0) m (q+1)
def TF:cI:=λc h u a m q=>xi c h u a (I 0) m (q+2)
def IS:gB:=λc h u b g i m q=>(iT g b).bind λa=>bD a true b m λd=>bD a true i d.2 λe=>aJ a true (iT d.1 e.1) e.2 λf=>(bN a f.1 (B false)).bind λj=>some (j,f.2)
def xh:iM:=λc h u m q=>some ((I 0),m)
def TE(c:aK)(h:FHs)(u:Nat)(r:dK):dK:=λg j i m q=>(aB 2 g).bind λn=>(aA false 1 n m).bind λo=>(aN prog nC o).bind λp=>(bU i p).bind λs=>aL s ((aB 2 g).bind λt=>(aA false 1 t m).bind λv=>(aT 3 v i).bind λw=>(aA true 3 w m).bind λx=>dH BI (u,q+10,5) m λa y=>aZ 3 a x y λk=>(aB 0 a).bind λz=>(aA false 1 z k).bind λA=>(aI c C8 [A] k).bind λd=>(dL d.1).bind λB=>aL B (some ((I 4),d.2)) ((aB 0 a).bind λC=>(aA false 1 C d.2).bind λD=>(dZ c uX [j,D] d.2).bind λe=>aL e.1 (some ((I 5),e.2)) ((aB 1 a).bind λE=>(aA false 1 E e.2).bind λF=>(aI c EL [F] e.2).bind λb=>(eC b.1 (I 0)).bind λG=>aL G (some (b.1,b.2)) ((aB 2 a).bind λH=>(aA false 1 H b.2).bind λJ=>(aI c rR [J,(I 0),(I 1000000)] b.2).bind λf=>(dL f.1).bind λK=>aL K (some ((I 2),f.2)) ((aB 0 a).bind λL=>(aA false 1 L f.2).bind λM=>dC lW [(0,1,M)] 1 1 (u,q+33,44) f.2 λN l=>cX 1 16 (u,q+34,45) (elems l.get 1 N) j l λO P=>(bI i (I 1)).bind λQ=>r g O Q P (q+39)))))) (xh c h u m (q+5))
def Z6(c:aK)(h:FHs)(u:Nat):Nat->dK
 |0=>λ_ _ _ _ _=>none
 |n+1=>TE c h u (Z6 c h u n)
def xg:bR:=λc h u a b m q=>Z6 c h u NN a b (I 0) m (q+1)
def TD:cI:=λc h u d m q=>cD d (u,q,1) m λb a=>(aB 2 b).bind λe=>(aA false 1 e a).bind λf=>(aN prog nC f).bind λg=>(eQ g (I 6)).bind λi=>aL i (some ((I 8),a)) (xg c h u b nilS a (q+7))
def xd:iM:=λc h u m q=>some ((I 0),m)
def TA(c:aK)(h:FHs)(u:Nat)(r:dK):dK:=λf i g m q=>(aB 3 f).bind λl=>(aA false 1 l m).bind λn=>(aN prog qP n).bind λo=>(bU g o).bind λp=>aL p ((aB 3 f).bind λs=>(aA false 1 s m).bind λt=>(aT 4 t g).bind λv=>(aA true 4 v m).bind λw=>dH l9 (u,q+10,5) m λa x=>aZ 4 a w x λj=>(aB 0 a).bind λy=>(aA false 1 y j).bind λz=>(aI c C8 [z] j).bind λb=>(dL b.1).bind λA=>aL A (some ((I 4),b.2)) ((aB 0 a).bind λB=>(aA false 1 B b.2).bind λC=>(dZ c uX [i,C] b.2).bind λd=>aL d.1 (some ((I 5),d.2)) ((aB 1 a).bind λD=>(aA true 3 D d.2).bind λE=>(aI c R4 [E] d.2).bind λe=>(dL e.1).bind λF=>aL F (some ((I 2),e.2)) ((aB 0 a).bind λG=>(aA false 1 G e.2).bind λH=>dC lW [(0,1,H)] 1 1 (u,q+27,37) e.2 λJ k=>cX 1 16 (u,q+28,38) (elems k.get 1 J) i k λK L=>(bI g (I 1)).bind λM=>r f K M L (q+33))))) (xd c h u m (q+5))
def Z4(c:aK)(h:FHs)(u:Nat):Nat->dK
 |0=>λ_ _ _ _ _=>none
 |n+1=>TA c h u (Z4 c h u n)
def xc:bR:=λc h u a b m q=>Z4 c h u NN a b (I 0) m (q+1)
def SZ:cI:=λc h u d m q=>cD d (u,q,1) m λb a=>(aB 3 b).bind λe=>(aA false 1 e a).bind λf=>(aN prog qP f).bind λg=>(eQ g (I 8)).bind λi=>aL i (some ((I 8),a)) (xc c h u b nilS a (q+7))
def xf:iM:=λc h u m q=>some ((I 0),m)
def TC(c:aK)(h:FHs)(u:Nat)(r:dK):dK:=λa g b m q=>(aB 4 a).bind λj=>(aA false 1 j m).bind λk=>(aN prog pG k).bind λl=>(bU b l).bind λn=>aL n ((aB 4 a).bind λo=>(aA false 1 o m).bind λp=>(aT 2 p b).bind λs=>(aB 0 s).bind λt=>(aA false 1 t m).bind λv=>(aI c C8 [v] m).bind λd=>(dL d.1).bind λw=>aL w (some ((I 4),d.2)) ((aB 4 a).bind λx=>(aA false 1 x d.2).bind λy=>(aT 2 y b).bind λz=>(aB 0 z).bind λA=>(aA false 1 A d.2).bind λB=>(dZ c uX [g,B] d.2).bind λe=>aL e.1 (some ((I 5),e.2)) ((aB 4 a).bind λC=>(aA false 1 C e.2).bind λD=>(aT 2 D b).bind λE=>(aB 1 E).bind λF=>(aA false 1 F e.2).bind λG=>(aI c rR [G,(I 1),(I 3)] e.2).bind λf=>(dL f.1).bind λH=>aL H (some ((I 2),f.2)) ((aB 4 a).bind λJ=>(aA false 1 J f.2).bind λK=>(aT 2 K b).bind λL=>(aB 0 L).bind λM=>(aA false 1 M f.2).bind λN=>dC lW [(0,1,N)] 1 1 (u,q+36,51) f.2 λO i=>cX 1 16 (u,q+37,52) (elems i.get 1 O) g i λP Q=>(bI b (I 1)).bind λR=>r a P R Q (q+42))))) (xf c h u m (q+5))
def Z5(c:aK)(h:FHs)(u:Nat):Nat->dK
 |0=>λ_ _ _ _ _=>none
 |n+1=>TC c h u (Z5 c h u n)
def xe:bR:=λc h u a b m q=>Z5 c h u NN a b (I 0) m (q+1)
def TB:cI:=λc h u d m q=>cD d (u,q,1) m λb a=>(aB 4 b).bind λe=>(aA false 1 e a).bind λf=>(aN prog pG f).bind λg=>(dY g (I 0)).bind λi=>aL i (some ((I 10),a)) ((aB 4 b).bind λj=>(aA false 1 j a).bind λk=>(aN prog pG k).bind λl=>(eQ l (I 10)).bind λn=>aL n (some ((I 8),a)) (xe c h u b nilS a (q+11)))
def xw:cI:=λc h u a m q=>some (AV.tup [a,(I 0),(I 0)],m)
def UJ(c:aK)(h:FHs)(u:Nat)(r:bZ):bZ:=λd e f a m q=>(bU a f).bind λj=>aL j ((aT 2 e a).bind λk=>(aA true 2 k m).bind λl=>dH JE (u,q+4,10) m λg n=>aZ 2 g l n λi=>(aA true 2 g i).bind λo=>(c h ER [d,o] i).bind λb=>(eC b.1 (I 0)).bind λp=>aL p ((bI a (I 1)).bind λs=>some (AV.tup [(AV.sc (.pointer none)),s,b.1],b.2)) ((bI a (I 1)).bind λt=>r d e f t b.2 (q+15))) (xw c h u d m (q+1))
def AA(c:aK)(h:FHs)(u:Nat):Nat->bZ
 |0=>λ_ _ _ _ _ _=>none
 |n+1=>UJ c h u (AA c h u n)
def xv:bR:=λc h u a b m q=>(aN prog vP a).bind λd=>AA c h u NN b a d (I 0) m (q+3)
def UI:bR:=λc h u g b m q=>cD g (u,q,2) m λd e=>(aA true 5 d e).bind λi=>(aI c yR [i] e).bind λa=>(eC a.1 (I 0)).bind λj=>aL j (some (AV.tup [(AV.sc (.pointer none)),(I 0),a.1],a.2)) ((aN prog vP b).bind λk=>(eQ k (I 40)).bind λl=>aL l (some (AV.tup [(AV.sc (.pointer none)),(I 0),(I 8)],a.2)) ((c h B8 [d] a.2).bind λf=>xv c h u b f.1 f.2 (q+14)))
def IJ:bR:=λc h u d e m q=>cD d (u,q,2) m λf g=>cD e (u,q+1,3) g λi a=>(aB 0 f).bind λj=>(aA false 1 j a).bind λk=>(cA k).bind λl=>(aB 2 l).bind λn=>(aA false 1 n a).bind λo=>(dZ c B5 [o,(AV.clo nN [i])] a).bind λb=>some (b.1,b.2)
def J6:bR:=λc h u a d m q=>(aA true 4 d m).bind λe=>aZ 4 a e m λb=>(gT true 4 a b).bind λr0=>some (r0,b)
def zd:nA:=λc h u d b s t m q=>(aB 1 b).bind λv=>(aA false 1 v m).bind λw=>(aN prog gR w).bind λx=>(eQ x (I 0)).bind λy=>aL y ((aB 0 b).bind λz=>aZ 1 z (I 2) m λA=>J6 c h u d b A (q+7)) ((aA false 1 t m).bind λe=>aJ e false (aA false 1 s m) m λj=>aJ e false (dY j.1 (I 0)) j.2 λk=>(bN e (B true) k.1).bind λa=>aJ a false (aB 3 b) k.2 λf=>aJ a false (aA false 1 f.1 f.2) f.2 λl=>aJ a false (aN prog gR l.1) l.2 λn=>aJ a false (aB 2 b) n.2 λg=>aJ a false (aA false 1 g.1 g.2) g.2 λo=>aJ a false (aN prog gR o.1) o.2 λp=>aJ a false (bI n.1 p.1) p.2 λr=>aJ a false (eQ r.1 (I 0)) r.2 λi=>(bN a (B true) i.1).bind λC=>aL C ((aB 0 b).bind λD=>aZ 1 D (I 1) i.2 λE=>J6 c h u d b E (q+23)) (J6 c h u d b i.2 (q+21)))
def yx:kc:=λc h u a d m q=>(aB 3 a).bind λe=>(aA false 1 e m).bind λf=>dC lW [(0,1,d)] 1 1 (u,q+3,69) m λg b=>cX 1 16 (u,q+4,70) (elems b.get 1 g) f b λi j=>(aB 3 a).bind λk=>aZ 1 k i j λl=>some l
def yw:kc:=λc h u a d m q=>(aB 2 a).bind λe=>(aA false 1 e m).bind λf=>dC lW [(0,1,d)] 1 1 (u,q+3,77) m λg b=>cX 1 16 (u,q+4,78) (elems b.get 1 g) f b λi j=>(aB 2 a).bind λk=>aZ 1 k i j λl=>some l
def IK:kc:=λc h u b f m q=>(aA false 1 b m).bind λa=>bD a false f m λd=>aJ a false (dY d.1 (I 1)) d.2 λe=>(bN a (B true) e.1).bind λg=>aZ 1 b g e.2 λi=>some i
def yv:yde:=λc h u b d f a m q=>(dY a (I 2)).bind λg=>aL g ((aB 1 b).bind λi=>(aA false 1 i m).bind λj=>dC lW [(0,1,f)] 1 1 (u,q+5,56) m λk e=>cX 1 16 (u,q+6,57) (elems e.get 1 k) j e λl n=>(aB 1 b).bind λo=>aZ 1 o l n λp=>IK c h u d a p (q+9)) (IK c h u d a m (q+2))
def yu:kb:=λc h u g i p r s j m q=>(aA true 5 g m).bind λd=>(aA true 3 j m).bind λe=>(aA true 3 j m).bind λa=>(aI c EM [a] m).bind λb=>(aI c EW [d,e,b.1] b.2).bind λf=>(aB 0 g).bind λk=>(aA false 1 k f.2).bind λt=>(cA t).bind λv=>(aB 2 v).bind λl=>(aA false 1 l f.2).bind λw=>(aA false 1 i f.2).bind λx=>(aT 3 w x).bind λy=>(aB 2 y).bind λn=>(aA false 1 n f.2).bind λz=>(aI c EB [f.1,z] f.2).bind λo=>(dB o.1 0).bind λA=>(dB o.1 1).bind λB=>bif(Nat.ble 1 (cB 0 [a])&&(Nat.ble 1 (cB 0 [d,e,b.1])&&true))&&(cV none (tR g) (cB 0 [a])&&(cV none (tR j) (cB 0 [a])&&(cV (some m.next) (tR k) (cB 0 [a])&&(cV (some m.next) (tR k) (cB 0 [d,e,b.1])&&(cV (some m.next) (tR l) (cB 0 [a])&&(cV (some m.next) (tR l) (cB 0 [d,e,b.1])&&(cV (some m.next) (tR i) (cB 0 [a])&&(cV (some m.next) (tR i) (cB 0 [d,e,b.1])&&(cV (some m.next) (tR n) (cB 0 [a])&&(cV (some m.next) (tR n) (cB 0 [d,e,b.1])&&true))))))))))then yv c h u p r s A o.2 (q+20)else none
def yr:HL:=λc h u d e a f b g i m q=>aL i (yw c h u a b m q) (yu c h u d e a f b g m q)
def yq:HL:=λc h u a b d e f g i m q=>(dY i (I 1)).bind λj=>yr c h u a b d e f g j m (q+2)
def yp:ydd:=λc h u d e a f b g i j m q=>aL j (yx c h u a b m q) (yq c h u d e a f b g i m q)
def zb:HL:=λc h u b d e f g i a m q=>(dY a (I 0)).bind λj=>yp c h u b d e f g i a j m (q+2)
def za:kb:=λc h u b j k e l f m q=>(aA false 1 e m).bind λn=>(bI n (I 1)).bind λo=>aZ 1 e o m λa=>(aB 0 b).bind λp=>(aA false 1 p a).bind λr=>(cA r).bind λs=>(aB 3 s).bind λt=>(aA false 1 t a).bind λv=>(aT 4 v f).bind λw=>(aB 0 w).bind λx=>(aA false 1 x a).bind λy=>(aA true 5 b a).bind λz=>(aI c C2 [z,f] a).bind λg=>dH lK (u,q+16,10) g.2 λd A=>aZ 3 d g.1 A λi=>(aB 0 d).bind λB=>(aA false 1 B i).bind λC=>zb c h u b j k l y d C i (q+20)
def IL:kb:=λc h u a b d e f g m q=>za c h u a b d e f g m (q+1)
def yz:xk9:=λc h u e f i a b d j m q=>rD j λg caps=>(c (((u,q,0),λargs m=>bif Nat.beq args.length 1&&true then IL c h m.next e f a b d (args.getD 0 U) ⟨m.hp,m.next+1⟩ 0 else none)::h) g (.yld (u,q,0)::caps) m).bind λp=>zd c h u i a b d p.2 (q+1)
def yy:OH:=λc h u a b e f g i m q=>(aA true 5 a m).bind λj=>(aA false 1 b m).bind λk=>(aI c wL [j,k] m).bind λd=>yz c h u a b e f g i d.1 d.2 (q+3)
def VY:bR:=λc h u d e m q=>cD d (u,q,2) m λf g=>cD e (u,q+1,3) g λi j=>dH tY (u,q+2,4) j λk l=>dH tY (u,q+3,5) l λn o=>dH iN (u,q+4,6) o λa p=>dH JC (u,q+5,7) p λb r=>aZ 1 a (I 0) r λs=>aZ 1 b (B false) s λt=>yy c h u f i k n a b t (q+8)
def zl:iM:=λc h u m q=>some ((I 0),m)
def WJ(c:aK)(h:FHs)(u:Nat)(r:bZ):bZ:=λf g i a m q=>(bU a i).bind λn=>aL n ((aT 2 g a).bind λo=>(aA true 2 o m).bind λp=>dH YH (u,q+4,11) m λd s=>aZ 2 d p s λj=>(aB 0 d).bind λt=>(aA false 1 t j).bind λv=>(dZ c rO [v,(AV.clo S8 [f]),a] j).bind λe=>(aB 1 d).bind λw=>(aA false 1 w e.2).bind λx=>(aI c rM [x,(I 1),(I 3)] e.2).bind λk=>(aI c pS [k.1] k.2).bind λl=>dC qO [(0,1,e.1),(1,1,l.1)] 2 1 (u,q+16,123) l.2 λy z=>(aI c uV [y] z).bind λb=>(eC b.1 (I 0)).bind λA=>aL A (some (b.1,b.2)) ((bI a (I 1)).bind λB=>r f g i B b.2 (q+23))) (zl c h u m (q+1))
def AG(c:aK)(h:FHs)(u:Nat):Nat->bZ
 |0=>λ_ _ _ _ _ _=>none
 |n+1=>WJ c h u (AG c h u n)
def zk:cI:=λc h u a m q=>(aB 4 a).bind λd=>(aA false 1 d m).bind λb=>(aN prog pG b).bind λe=>AG c h u NN a b e (I 0) m (q+4)
def WG:cI:=λc h u a m q=>(aB 4 a).bind λb=>(aA false 1 b m).bind λd=>(aN prog pG d).bind λe=>(dY e (I 0)).bind λf=>aL f (some ((I 10),m)) ((aB 4 a).bind λg=>(aA false 1 g m).bind λi=>(aN prog pG i).bind λj=>(eQ j (I 10)).bind λk=>aL k (some ((I 8),m)) (zk c h u a m (q+10)))
def WE(c:aK)(h:FHs)(u:Nat)(s:bZ):bZ:=λg o p e m q=>(bU e p).bind λz=>aL z ((aT 4 o e).bind λA=>(aA true 4 A m).bind λC=>dH l9 (u,q+4,7) m λb D=>aZ 4 b C D λr=>(aB 1 b).bind λE=>(aB 0 E).bind λF=>(aA false 1 F r).bind λG=>(aI c rN [G,(I 100000000)] r).bind λa=>aJ a.1 true (aB 1 b) a.2 λt=>aJ a.1 true (aB 1 t.1) t.2 λi=>aJ a.1 true (aA false 1 i.1 i.2) i.2 λj=>eR a.1 true (aI c rN [j.1,(I 100000000)] j.2) j.2 λv=>(bN a.1 v.1 (B false)).bind λd=>aJ d true (aB 1 b) v.2 λw=>aJ d true (aB 2 w.1) w.2 λk=>aJ d true (aA false 1 k.1 k.2) k.2 λl=>eR d true (aI c rN [l.1,(I 100000000)] l.2) l.2 λn=>(bN d n.1 (B false)).bind λH=>(aB 0 b).bind λJ=>(aA false 1 J n.2).bind λK=>(dZ c rO [K,(AV.clo C4 [g]),e] n.2).bind λx=>(aI c pS [H] x.2).bind λy=>dC qO [(0,1,x.1),(1,1,y.1)] 2 1 (u,q+31,90) y.2 λL M=>(aI c uV [L] M).bind λf=>(eC f.1 (I 0)).bind λN=>aL N (some (f.1,f.2)) ((bI e (I 1)).bind λO=>s g o p O f.2 (q+38))) (WG c h u g m (q+1))
def I8(c:aK)(h:FHs)(u:Nat):Nat->bZ
 |0=>λ_ _ _ _ _ _=>none
 |n+1=>WE c h u (I8 c h u n)
def zj:cI:=λc h u a m q=>(aB 3 a).bind λd=>(aA false 1 d m).bind λb=>(aN prog qP b).bind λe=>I8 c h u NN a b e (I 0) m (q+4)
def WD:cI:=λc h u a m q=>(aB 3 a).bind λb=>(aA false 1 b m).bind λd=>(aN prog qP d).bind λe=>(eQ e (I 8)).bind λf=>aL f (some ((I 8),m)) (zj c h u a m (q+4))
def WC(c:aK)(h:FHs)(u:Nat)(w:bZ):bZ:=λe k l a m q=>(bU a l).bind λr=>aL r ((aT 3 k a).bind λs=>(aA true 3 s m).bind λt=>dH BI (u,q+4,4) m λb v=>aZ 3 b t v λf=>(aB 0 b).bind λx=>(aA false 1 x f).bind λy=>(dZ c rO [y,(AV.clo S9 [e]),a] f).bind λg=>(aB 1 b).bind λz=>(aA false 1 z g.2).bind λi=>(aI c T4 [i] g.2).bind λj=>(aB 2 b).bind λn=>(aA false 1 n j.2).bind λA=>(aI c rM [A,(I 0),(I 1000000)] j.2).bind λo=>(aI c pS [o.1] o.2).bind λp=>dC qO [(0,1,g.1),(1,1,j.1),(2,1,p.1)] 3 1 (u,q+19,49) p.2 λB C=>(aI c uV [B] C).bind λd=>bif(Nat.ble 1 (cB 0 [i])&&true)&&(cV (some f.next) (tR n) (cB 0 [i])&&true)then (eC d.1 (I 0)).bind λD=>aL D (some (d.1,d.2)) ((bI a (I 1)).bind λE=>w e k l E d.2 (q+26))else none) (WD c h u e m (q+1))
def AF(c:aK)(h:FHs)(u:Nat):Nat->bZ
 |0=>λ_ _ _ _ _ _=>none
 |n+1=>WC c h u (AF c h u n)
def zi:cI:=λc h u a m q=>(aB 2 a).bind λd=>(aA false 1 d m).bind λb=>(aN prog nC b).bind λe=>AF c h u NN a b e (I 0) m (q+4)
def WB:cI:=λc h u k m q=>cD k (u,q,1) m λd g=>(aB 0 d).bind λl=>(aA false 1 l g).bind λn=>(aI c rM [n,(I 1),(I 10000)] g).bind λi=>(dL i.1).bind λa=>aJ a false (aB 1 d) i.2 λe=>aJ a false (aA false 1 e.1 e.2) e.2 λf=>eR a false (aI c rM [f.1,(I 0),(I 2048)] f.2) f.2 λj=>aJ a false (dL j.1) j.2 λb=>(bN a (B true) b.1).bind λo=>aL o (some ((I 2),b.2)) ((aB 2 d).bind λp=>(aA false 1 p b.2).bind λr=>(aN prog nC r).bind λs=>(eQ s (I 6)).bind λt=>aL t (some ((I 8),b.2)) (zi c h u d b.2 (q+18)))
def IC:cI:=λc h u a m q=>(cW BH []).bind λb=>(cW jY [(0,1,a),(1,4,b)]).bind λd=>(cW JA [(0,1,a),(2,5,d)]).bind λe=>cD e (u,q+6,8) m λf g=>some (f,g)
def IH:bR:=λc h u a b m q=>cD a (u,q,2) m λd e=>cD b (u,q+1,3) e λf g=>some ((AV.clo oN [d,f]),g)
def UN:gB:=λc h u v w x m q=>cD v (u,q,3) m λy z=>dH jY (u,q+1,6) z λa A=>dH lK (u,q+2,7) A λb p=>(aA true 5 y p).bind λB=>(aI c wH [B,w] p).bind λf=>(dB f.1 0).bind λi=>(dB f.1 1).bind λag=>(dB f.1 2).bind λr=>(eC r (I 0)).bind λC=>aL C ((cW jY []).bind λD=>(cW lK []).bind λE=>aZ 5 a D f.2 λF=>aZ 3 b E F λj=>(gT true 5 a j).bind λr0=>(gT true 3 b j).bind λr1=>some (AV.tup [r0,r1,r],j)) ((cA i).bind λG=>(aB 2 G).bind λH=>(aA true 5 H f.2).bind λJ=>(dZ c wK [J,x] f.2).bind λg=>(bU g.1 (I 0)).bind λK=>aL K ((cW jY []).bind λL=>(cW lK []).bind λM=>aZ 5 a L g.2 λN=>aZ 3 b M N λk=>(gT true 5 a k).bind λr0=>(gT true 3 b k).bind λr1=>some (AV.tup [r0,r1,(I 6)],k)) ((cA i).bind λO=>(aB 2 O).bind λP=>(aA true 5 P g.2).bind λQ=>(aI c C2 [Q,g.1] g.2).bind λs=>dH lK (u,q+31,13) s.2 λd R=>aZ 3 d s.1 R λe=>(aB 0 d).bind λS=>(aA false 1 S e).bind λt=>(dY t (I 0)).bind λT=>aL T ((cW jY []).bind λU=>(aA true 3 d e).bind λV=>aZ 5 a U e λW=>aZ 3 b V W λl=>bif(aY (tR d) (tS a)&&true)then (gT true 5 a l).bind λr0=>(gT true 3 b l).bind λr1=>some (AV.tup [r0,r1,(I 12)],l)else none) ((dY t (I 1)).bind λX=>aL X ((cW jY []).bind λY=>(aA true 3 d e).bind λZ=>aZ 5 a Y e λaa=>aZ 3 b Z aa λn=>bif(aY (tR d) (tS a)&&true)then (gT true 5 a n).bind λr0=>(gT true 3 b n).bind λr1=>some (AV.tup [r0,r1,(I 26)],n)else none) ((cA i).bind λab=>(aB 2 ab).bind λac=>(aA true 5 ac e).bind λad=>(aA true 3 d e).bind λae=>aZ 5 a ad e λaf=>aZ 3 b ae af λo=>bif(aY (tR d) (tS a)&&true)then (gT true 5 a o).bind λr0=>(gT true 3 b o).bind λr1=>some (AV.tup [r0,r1,(I 0)],o)else none))))
def SO:cI:=λc h u a m q=>(cO prog .eql qQ (.tmp 3) (.const (.slice none 0 0)) a nilS).bind λd=>aL d (some (nilS,m)) (dC tW [] 0 4 (u,q+3,5) m λe b=>cX 4 32 (u,q+5,7) (elems b.get 4 a) e b λf g=>some (f,g))
def SN:cI:=λc h u a m q=>(cO prog .eql fG (.tmp 3) (.const (.slice none 0 0)) a nilS).bind λd=>aL d (some (nilS,m)) (dC iN [] 0 1 (u,q+3,5) m λe b=>cX 1 8 (u,q+5,7) (elems b.get 1 a) e b λf g=>some (f,g))
def PK:bR:=λc h u b d m q=>(aI c FC [b,d] m).bind λa=>(dB a.1 0).bind λe=>(dB a.1 1).bind λf=>(dB a.1 2).bind λg=>some (AV.tup [e,f,g],a.2)
def ya:cI:=λc h u b m q=>(cO prog .neq cF (.tmp 47) (.const (.string ⟨#[]⟩)) b (AV.sc (.string ⟨#[]⟩))).bind λa=>bD a true b m λd=>aJ a true (fL d.1) d.2 λe=>aJ a true (iT e.1 (I 12)) e.2 λf=>(bN a f.1 (B false)).bind λg=>some (g,f.2)
def UR(c:aK)(h:FHs)(u:Nat)(r:bZ):bZ:=λn o p g m q=>(bU g p).bind λM=>aL M ((aT 1 o g).bind λN=>(aA false 1 N m).bind λa=>(cO prog .geq gQ (.tmp 14) (.const (.int .u8 97)) a (AV.sc (.int .u8 97))).bind λk=>bD k true a m λs=>aJ k true (cO prog .leq gQ (.tmp 17) (.const (.int .u8 122)) s.1 (AV.sc (.int .u8 122))) s.2 λt=>(bN k t.1 (B false)).bind λe=>bD e false a t.2 λv=>aJ e false (cO prog .geq gQ (.tmp 21) (.const (.int .u8 65)) v.1 (AV.sc (.int .u8 65))) v.2 λw=>bD e false w.1 w.2 λi=>bD i.1 true a i.2 λx=>aJ i.1 true (cO prog .leq gQ (.tmp 24) (.const (.int .u8 90)) x.1 (AV.sc (.int .u8 90))) x.2 λy=>aJ e false (bN i.1 y.1 (B false)) y.2 λz=>(bN e (B true) z.1).bind λO=>(dL O).bind λf=>bD f true g z.2 λA=>aJ f true (dY A.1 (I 0)) A.2 λC=>bD f true C.1 C.2 λb=>bD b.1 false a b.2 λD=>aJ b.1 false (cO prog .neq gQ (.tmp 34) (.const (.int .u8 45)) D.1 (AV.sc (.int .u8 45))) D.2 λE=>bD b.1 false E.1 E.2 λd=>bD d.1 true a d.2 λF=>aJ d.1 true (cO prog .lss gQ (.tmp 37) (.const (.int .u8 48)) F.1 (AV.sc (.int .u8 48))) F.2 λG=>bD d.1 true G.1 G.2 λj=>bD j.1 false a j.2 λH=>aJ j.1 false (cO prog .gtr gQ (.tmp 40) (.const (.int .u8 57)) H.1 (AV.sc (.int .u8 57))) H.2 λJ=>aJ d.1 true (bN j.1 (B true) J.1) J.2 λK=>aJ b.1 false (bN d.1 K.1 (B false)) K.2 λL=>aJ f true (bN b.1 (B true) L.1) L.2 λl=>(bN f l.1 (B false)).bind λP=>aL P (some ((B false),l.2)) ((bI g (I 1)).bind λQ=>r n o p Q l.2 (q+41))) (ya c h u n m (q+1))
def I5(c:aK)(h:FHs)(u:Nat):Nat->bZ
 |0=>λ_ _ _ _ _ _=>none
 |n+1=>UR c h u (I5 c h u n)
def xz:cI:=λc h u a m q=>(oJ prog cF xS a).bind λb=>(aN prog xS b).bind λd=>I5 c h u NN a b d (I 0) m (q+4)
def UQ:cI:=λc h u a m q=>xz c h u a m (q+1)
def ID:OH:=λc h u a g o p r s m q=>(cA a).bind λt=>(aB 0 t).bind λv=>(aA false 1 v m).bind λw=>(cA w).bind λx=>(aB 4 x).bind λy=>(aA false 1 y m).bind λz=>(aT 2 z o).bind λA=>(aB 1 A).bind λB=>(aA false 1 B m).bind λC=>(bU C s).bind λD=>aL D (some ((I 24),m)) ((cO prog .eql cF (.tmp 60) (.const (.string ⟨#[102,105,120]⟩)) p (AV.sc (.string ⟨#[102,105,120]⟩))).bind λE=>aL E ((c h R5 [a,r] m).bind λi=>some (i.1,i.2)) ((cA a).bind λF=>(aB 2 F).bind λG=>(aA true 5 G m).bind λH=>dH jY (u,q+19,13) m λb J=>aZ 5 b H J λf=>(aB 1 g).bind λK=>(aA false 1 K f).bind λL=>(cA a).bind λM=>(aB 1 M).bind λN=>(aA false 1 N f).bind λO=>(aN prog gR O).bind λP=>(bI P (I 1)).bind λQ=>(c h wM [b,L,Q] f).bind λd=>(eC d.1 (I 0)).bind λR=>aL R (some (d.1,d.2)) ((cA a).bind λS=>(aB 1 S).bind λj=>(aA false 1 j d.2).bind λT=>(aI c DW [T] d.2).bind λe=>(aB 1 g).bind λU=>(aA false 1 U e.2).bind λV=>dC lW [(0,1,V)] 1 1 (u,q+42,90) e.2 λk l=>cX 1 16 (u,q+43,91) (elems l.get 1 k) e.1 l λW n=>(aA true 5 b n).bind λX=>(cA a).bind λY=>(aB 1 Y).bind λZ=>aZ 1 Z W n λaa=>(cA a).bind λab=>(aB 2 ab).bind λac=>aZ 5 ac X aa λad=>bif(aY (tR j) (some [],some [(u,q+42,90)])&&(aY (some [],some [(u,q+42,90)]) (tR b)&&(aY (tX k,tA (u,q+43,91) e.1) (tR b)&&true)))then some ((I 0),ad)else none)))
def yd:OH:=λc h u e f g a i k m q=>(aI c wI [a] m).bind λb=>(dB b.1 0).bind λl=>(dB b.1 1).bind λn=>dH vO (u,q+5,11) b.2 λj o=>aZ 3 j l o λd=>aL n ((aB 0 j).bind λp=>(aA false 1 p d).bind λr=>ID c h u e f g a i r d (q+12)) (ID c h u e f g a i k d (q+9))
def UU:bR:=λc h u g i m q=>cD i (u,q,3) m λd f=>(cA g).bind λj=>(aB 0 j).bind λk=>(aA false 1 k f).bind λl=>(cA l).bind λn=>(aB 4 n).bind λo=>(aA false 1 o f).bind λp=>(dZ c P8 [p,(AV.clo sQ [d])] f).bind λa=>(bU a.1 (I 0)).bind λr=>aL r (some ((I 6),a.2)) ((aB 1 d).bind λs=>(aA false 1 s a.2).bind λt=>(aI c yQ [t] a.2).bind λb=>(eC b.1 (I 0)).bind λv=>aL v (some (b.1,b.2)) ((aB 1 d).bind λw=>(aA false 1 w b.2).bind λx=>(aI c sO [x,(AV.sc (.string ⟨#[32]⟩))] b.2).bind λe=>(dB e.1 0).bind λy=>(dB e.1 1).bind λz=>(dB e.1 2).bind λA=>yd c h u g d a.1 y z (I 3) e.2 (q+31)))
def xab:iM:=λc h u m q=>some ((B true),m)
def XT(c:aK)(h:FHs)(u:Nat)(r:lV):lV:=λk g m q=>(fL k).bind λK=>(bU g K).bind λL=>aL L ((kK prog cF k g).bind λa=>(cO prog .geq gQ (.tmp 23) (.const (.int .u8 97)) a (AV.sc (.int .u8 97))).bind λl=>bD l true a m λo=>aJ l true (cO prog .leq gQ (.tmp 26) (.const (.int .u8 122)) o.1 (AV.sc (.int .u8 122))) o.2 λp=>(bN l p.1 (B false)).bind λe=>bD e false a p.2 λs=>aJ e false (cO prog .geq gQ (.tmp 30) (.const (.int .u8 65)) s.1 (AV.sc (.int .u8 65))) s.2 λt=>bD e false t.1 t.2 λi=>bD i.1 true a i.2 λv=>aJ i.1 true (cO prog .leq gQ (.tmp 33) (.const (.int .u8 90)) v.1 (AV.sc (.int .u8 90))) v.2 λw=>aJ e false (bN i.1 w.1 (B false)) w.2 λx=>(bN e (B true) x.1).bind λM=>(dL M).bind λf=>bD f true g x.2 λy=>aJ f true (dY y.1 (I 0)) y.2 λz=>bD f true z.1 z.2 λb=>bD b.1 false a b.2 λA=>aJ b.1 false (cO prog .neq gQ (.tmp 43) (.const (.int .u8 45)) A.1 (AV.sc (.int .u8 45))) A.2 λC=>bD b.1 false C.1 C.2 λd=>bD d.1 true a d.2 λD=>aJ d.1 true (cO prog .lss gQ (.tmp 46) (.const (.int .u8 48)) D.1 (AV.sc (.int .u8 48))) D.2 λE=>bD d.1 true E.1 E.2 λj=>bD j.1 false a j.2 λF=>aJ j.1 false (cO prog .gtr gQ (.tmp 49) (.const (.int .u8 57)) F.1 (AV.sc (.int .u8 57))) F.2 λG=>aJ d.1 true (bN j.1 (B true) G.1) G.2 λH=>aJ b.1 false (bN d.1 H.1 (B false)) H.2 λJ=>aJ f true (bN b.1 (B true) J.1) J.2 λn=>(bN f n.1 (B false)).bind λN=>aL N (some ((B false),n.2)) ((bI g (I 1)).bind λO=>r k O n.2 (q+44))) (xab c h u m (q+4))
def J1(c:aK)(h:FHs)(u:Nat):Nat->lV
 |0=>λ_ _ _ _=>none
 |n+1=>XT c h u (J1 c h u n)
def xaa:cI:=λc h u a m q=>J1 c h u NN a (I 0) m (q+1)
def XS:cI:=λc h u b m q=>(fL b).bind λg=>(bU g (I 1)).bind λa=>bD a false b m λe=>aJ a false (fL e.1) e.2 λf=>aJ a false (eQ f.1 (I 12)) f.2 λd=>(bN a (B true) d.1).bind λi=>aL i (some ((B false),d.2)) (xaa c h u b d.2 (q+9))
def xr:iM:=λc h u m q=>some ((I 0),m)
def xq(c:aK)(h:FHs)(u:Nat)(r:dK):dK:=λa b d m q=>(bI d (I 1)).bind λe=>r a b e m (q+3)
def TZ(c:aK)(h:FHs)(u:Nat)(r:dK)(s:bZ):bZ:=λb d e f m q=>(bU f d).bind λJ=>aL J ((bI f (I 1)).bind λK=>(oG K d).bind λL=>(eC L e).bind λa=>bD a true b m λo=>bD a true e o.2 λp=>aJ a true (aT 3 o.1 p.1) p.2 λg=>aJ a true (aA true 3 g.1 g.2) g.2 λt=>bD a true b t.2 λv=>bD a true e v.2 λw=>aJ a true (bI w.1 (I 1)) w.2 λx=>aJ a true (aT 3 v.1 x.1) x.2 λi=>aJ a true (aA true 3 i.1 i.2) i.2 λy=>bD a true b y.2 λz=>bD a true f z.2 λA=>aJ a true (aT 3 z.1 A.1) A.2 λj=>aJ a true (aA true 3 j.1 j.2) j.2 λC=>bD a true b C.2 λD=>bD a true f D.2 λE=>aJ a true (bI E.1 (I 1)) E.2 λF=>bD a true d F.2 λG=>aJ a true (oG F.1 G.1) G.2 λH=>aJ a true (aT 3 D.1 H.1) H.2 λk=>aJ a true (aA true 3 k.1 k.2) k.2 λl=>eR a true (aI c EI [t.1,y.1,C.1,l.1] l.2) l.2 λn=>(bN a n.1 (B false)).bind λM=>aL M (some ((I 13),n.2)) ((bI f (I 1)).bind λN=>s b d e N n.2 (q+35))) (xq c h u r b d e m (q+3))
def I2(c:aK)(h:FHs)(u:Nat)(r:dK):Nat->bZ
 |0=>λ_ _ _ _ _ _=>none
 |n+1=>TZ c h u r (I2 c h u r n)
def xo(c:aK)(h:FHs)(u:Nat)(r:dK):dK:=λb d a m q=>(aT 3 b a).bind λf=>(aA true 3 f m).bind λg=>(bI a (I 1)).bind λi=>(oG i d).bind λj=>(aT 3 b j).bind λk=>(aA true 3 k m).bind λl=>(bI a d).bind λn=>(eM n (I 1)).bind λo=>(oG o d).bind λp=>(aT 3 b p).bind λs=>(aA true 3 s m).bind λt=>(aI c EJ [g,l,t] m).bind λe=>aL e.1 (some ((I 13),e.2)) ((bI a (I 2)).bind λv=>I2 c h u r NN b d a v e.2 (q+24))
def TY(c:aK)(h:FHs)(u:Nat)(r:dK):dK:=λd a b m q=>(bU b a).bind λe=>aL e (xo c h u r d a b m (q+3)) (xr c h u m (q+3))
def I3(c:aK)(h:FHs)(u:Nat):Nat->dK
 |0=>λ_ _ _ _ _=>none
 |n+1=>TY c h u (I3 c h u n)
def TX:bR:=λc h u a b m q=>I3 c h u NN a b (I 0) m (q+1)
def xn(c:aK)(h:FHs)(u:Nat)(w:dK):dK:=λa b d m q=>(bI d (I 1)).bind λe=>w a b e m (q+3)
def TW(c:aK)(h:FHs)(u:Nat)(w:dK)(z:bZ):bZ:=λb j d e m q=>(bU e d).bind λv=>aL v ((aT 3 b e).bind λx=>(aB 0 x).bind λy=>(aA false 1 y m).bind λA=>(aT 3 b d).bind λC=>(aB 0 C).bind λD=>(aA false 1 D m).bind λE=>(dY A E).bind λa=>bD a true b m λk=>bD a true e k.2 λl=>aJ a true (aT 3 k.1 l.1) l.2 λn=>aJ a true (aB 1 n.1) n.2 λf=>aJ a true (aA false 1 f.1 f.2) f.2 λo=>bD a true b o.2 λp=>bD a true d p.2 λr=>aJ a true (aT 3 p.1 r.1) r.2 λs=>aJ a true (aB 1 s.1) s.2 λg=>aJ a true (aA false 1 g.1 g.2) g.2 λt=>aJ a true (dY o.1 t.1) t.2 λi=>(bN a i.1 (B false)).bind λF=>aL F (some ((I 28),i.2)) ((bI e (I 1)).bind λG=>z b j d G i.2 (q+30))) (xn c h u w b j d m (q+3))
def Z9(c:aK)(h:FHs)(u:Nat)(w:dK):Nat->bZ
 |0=>λ_ _ _ _ _ _=>none
 |n+1=>TW c h u w (Z9 c h u w n)
def xm(c:aK)(h:FHs)(u:Nat)(w:dK):dK:=λb e d m q=>(aT 3 b d).bind λf=>(aA true 3 f m).bind λg=>(aI c R4 [g] m).bind λa=>(dL a.1).bind λi=>aL i (some ((I 2),a.2)) (Z9 c h u w NN b e d (I 0) a.2 (q+7))
def TV(c:aK)(h:FHs)(u:Nat)(w:dK):dK:=λb a d m q=>(bU d a).bind λe=>aL e (xm c h u w b a d m (q+3)) (TX c h u b a m (q+3))
def I1(c:aK)(h:FHs)(u:Nat):Nat->dK
 |0=>λ_ _ _ _ _=>none
 |n+1=>TV c h u (I1 c h u n)
def xp:bR:=λc h u a b m q=>I1 c h u NN a b (I 0) m (q+1)
def UA:cI:=λc h u b m q=>(aN prog pF b).bind λa=>(bU a (I 3)).bind λd=>aL d (some ((I 10),m)) ((eQ a (I 20)).bind λe=>aL e (some ((I 8),m)) (xp c h u b a m (q+8)))
def TT:cI:=λc h u n m q=>cD n (u,q,1) m λd j=>(aB 0 d).bind λo=>(aA false 1 o j).bind λp=>(aI c B7 [p] j).bind λa=>aJ a.1 true (aB 1 d) a.2 λe=>aJ a.1 true (aA false 1 e.1 e.2) e.2 λf=>eR a.1 true (aI c B7 [f.1] f.2) f.2 λk=>(bN a.1 k.1 (B false)).bind λb=>aJ b true (aB 2 d) k.2 λg=>aJ b true (aA false 1 g.1 g.2) g.2 λi=>eR b true (aI c B7 [i.1] i.2) i.2 λl=>(bN b l.1 (B false)).bind λr=>some (r,l.2)
def ww:iM:=λc h u m q=>some ((I (-1)),m)
def SA(c:aK)(h:FHs)(u:Nat)(r:bZ):bZ:=λd e f a m q=>(bU a f).bind λg=>aL g ((aT 3 d a).bind λi=>(aA true 3 i m).bind λj=>(fI c h 2 e [j] m).bind λb=>aL b.1 (some (a,b.2)) ((bI a (I 1)).bind λk=>r d e f k b.2 (q+11))) (ww c h u m (q+1))
def I0(c:aK)(h:FHs)(u:Nat):Nat->bZ
 |0=>λ_ _ _ _ _ _=>none
 |n+1=>SA c h u (I0 c h u n)
def RZ:bR:=λc h u a b m q=>(aN prog nC a).bind λd=>I0 c h u NN a b d (I 0) m (q+3)
def HY:bR:=λc h u a b m q=>RZ c h u a b m (q+1)
def II:bR:=λc h u b d m q=>cD b (u,q,2) m λe a=>(aB 0 e).bind λf=>(aA false 1 f a).bind λg=>(aA false 1 d a).bind λi=>(cO prog .eql cF (.tmp 5) (.tmp 6) g i).bind λj=>some (j,a)
def VU:bR:=λc h u n o m q=>cD n (u,q,2) m λp r=>dH lK (u,q+1,4) r λa f=>(aA true 5 p f).bind λs=>(aI c EV [s,o] f).bind λd=>(dB d.1 0).bind λt=>(dB d.1 1).bind λg=>dH BG (u,q+8,5) d.2 λi v=>aZ 4 i t v λe=>(bU g (I 0)).bind λw=>aL w ((cW lK [(0,1,(I 0))]).bind λx=>aZ 3 a x e λj=>(gT true 3 a j).bind λr0=>some (r0,j)) ((aA true 4 i e).bind λy=>(aI c DM [y,g] e).bind λb=>(dB b.1 0).bind λz=>(dB b.1 1).bind λA=>(dB b.1 2).bind λB=>(eC B (I 0)).bind λC=>aL C ((cW lK [(0,1,(I 1)),(2,1,A)]).bind λD=>aZ 3 a D b.2 λk=>(gT true 3 a k).bind λr0=>some (r0,k)) ((cW lK [(0,1,(I 2)),(1,1,z)]).bind λE=>aZ 3 a E b.2 λl=>(gT true 3 a l).bind λr0=>some (r0,l)))
def SY:bR:=λc h u w j m q=>cD w (u,q,2) m λx k=>(aA true 5 x k).bind λy=>(aI c EA [y] k).bind λa=>(dB a.1 0).bind λl=>(dB a.1 1).bind λn=>(dB a.1 2).bind λo=>(eC o (I 0)).bind λz=>aL z (some (AV.tup [(I 0),o],a.2)) ((aI c wE [j,(I 0),(I 1000000000)] a.2).bind λf=>(dL f.1).bind λA=>aL A (some (AV.tup [(I 0),(I 2)],f.2)) ((jP (I 8192) j).bind λd=>(eQ l d).bind λb=>bD b false n f.2 λp=>bD b false d p.2 λr=>aJ b false (pO r.1) r.2 λs=>aJ b false (bU p.1 s.1) s.2 λg=>(bN b (B true) g.1).bind λC=>aL C (some (AV.tup [(I 2),(I 0)],g.2)) ((pO d).bind λD=>(kL l D).bind λe=>bD e true n g.2 λt=>bD e true d t.2 λv=>aJ e true (iT t.1 v.1) v.2 λi=>(bN e i.1 (B false)).bind λE=>aL E (some (AV.tup [(I 0),(I 0)],i.2)) (some (AV.tup [(I 1),(I 0)],i.2)))))
def VT:gB:=λc h u f g i m q=>cD f (u,q,3) m λb j=>cD g (u,q+1,4) j λk l=>dH YG (u,q+2,6) l λd a=>(aB 0 b).bind λn=>(aA false 1 n a).bind λo=>(cA o).bind λp=>(aB 1 p).bind λr=>(aA false 1 r a).bind λs=>(aB 1 k).bind λt=>(aA false 1 t a).bind λv=>(aT 1 v i).bind λw=>(aA false 1 w a).bind λx=>(aB 0 b).bind λy=>(aA false 1 y a).bind λz=>(cA z).bind λA=>(aB 1 A).bind λB=>(aA false 1 B a).bind λC=>(aB 0 b).bind λD=>(aA false 1 D a).bind λE=>(cA E).bind λF=>(aB 0 F).bind λG=>(aA false 1 G a).bind λH=>(cW YG [(1,1,s),(2,1,x),(3,1,C),(4,1,H)]).bind λI=>aZ 5 d I a λe=>(gT true 5 d e).bind λr0=>some (r0,e)
def UD:iM:=λc h u m q=>some ((I 0),m)
def IB(c:aK)(h:FHs)(u:Nat)(r:lV):lV:=λb a m q=>(eQ a (I 0)).bind λd=>aL d ((aB 1 b).bind λe=>(aA false 1 e m).bind λf=>(aT 1 f a).bind λg=>(aA false 1 g m).bind λi=>(eC i (I 1000000000000)).bind λj=>aL j (some (a,m)) ((eM a (I 1)).bind λk=>r b k m (q+11))) (UD c h u m (q+2))
def I4(c:aK)(h:FHs)(u:Nat):Nat->lV
 |0=>λ_ _ _ _=>none
 |n+1=>IB c h u (I4 c h u n)
def xt:cI:=λc h u a m q=>(aB 1 a).bind λb=>(aA false 1 b m).bind λd=>(aN prog fG d).bind λe=>(eM e (I 1)).bind λf=>I4 c h u NN a f m (q+5)
def UC:cI:=λc h u a m q=>cD a (u,q,1) m λb d=>xt c h u b d (q+2)
def UB:gB:=λc h u b g i m q=>(iT g b).bind λa=>bD a true b m λd=>bD a true i d.2 λe=>aJ a true (iT d.1 e.1) e.2 λf=>(bN a f.1 (B false)).bind λj=>some (j,f.2)
def yh:iM:=λc h u m q=>some ((I 0),m)
def VG(c:aK)(h:FHs)(u:Nat)(r:dK):dK:=λb d a m q=>(bU a d).bind λf=>aL f ((aT 1 b a).bind λg=>(aA false 1 g m).bind λe=>(eC e (I 0)).bind λi=>aL i (some (e,m)) ((bI a (I 1)).bind λj=>r b d j m (q+8))) (yh c h u m (q+1))
def AD(c:aK)(h:FHs)(u:Nat):Nat->dK
 |0=>λ_ _ _ _ _=>none
 |n+1=>VG c h u (AD c h u n)
def yg:cI:=λc h u a m q=>(aN prog BJ a).bind λb=>AD c h u NN a b (I 0) m (q+3)
def VF:cI:=λc h u a m q=>yg c h u a m (q+1)
def xy:iM:=λc h u m q=>some ((I 0),m)
def UM(c:aK)(h:FHs)(u:Nat)(r:bZ):bZ:=λd e f a m q=>(bU a f).bind λg=>aL g ((fI c h 2 e [a] m).bind λb=>(cO prog .eql cF (.tmp 17) (.tmp 18) b.1 d).bind λi=>aL i (some ((I 5),b.2)) ((bI a (I 1)).bind λj=>r d e f j b.2 (q+10))) (xy c h u m (q+1))
def AB(c:aK)(h:FHs)(u:Nat):Nat->bZ
 |0=>λ_ _ _ _ _ _=>none
 |n+1=>UM c h u (AB c h u n)
def xx:gB:=λc h u a b d m q=>AB c h u NN a b d (I 0) m (q+2)
def UL:gB:=λc h u b d e m q=>(aI c EQ [b] m).bind λa=>(dL a.1).bind λf=>aL f (some ((I 4),a.2)) (xx c h u b d e a.2 (q+4))
def WI:bR:=λc h u a b m q=>(aB 2 b).bind λd=>(aA false 1 d m).bind λe=>(aT 3 e a).bind λf=>(aB 0 f).bind λg=>(aA false 1 g m).bind λi=>some (i,m)
def Y':iM:=λc h u m q=>some ((I 0),m)
def V'(c:aK)(h:FHs)(u:Nat)(r:bZ):bZ:=λa b d e m q=>(bI e (I 1)).bind λf=>r a b d f m (q+2)
def T'(c:aK)(h:FHs)(u:Nat)(r:bZ)(s:pD):pD:=λa b d e f g i j k m q=>(bI k (I 1)).bind λl=>s a b d e f g i j l m (q+2)
def AW(c:aK)(h:FHs)(u:Nat)(r:bZ)(s:pD):ydg:=λa b d e f g i j k l m q=>aL e (some ((I 13),m)) (T' c h u r s a b d f g i j k l m (q+1))
def S'(c:aK)(h:FHs)(u:Nat)(r:bZ)(s:pD):ydf:=λj g a z i k l n o p t m q=>(bI z (I 1)).bind λL=>(dY g L).bind λM=>aL M ((aA true 4 a m).bind λN=>(aB 0 i).bind λO=>(aA true 2 O m).bind λP=>(aI c pV [N,P] m).bind λb=>aJ b.1 false (aA true 4 i b.2) b.2 λA=>aJ b.1 false (aB 2 a) A.2 λv=>aJ b.1 false (aA true 2 v.1 v.2) v.2 λw=>eR b.1 false (aI c pV [A.1,w.1] w.2) w.2 λC=>(bN b.1 (B true) C.1).bind λQ=>AW c h u r s j g a Q k l n o p t C.2 (q+16)) ((dY z (I 0)).bind λf=>bD f true g m λD=>bD f true j D.2 λE=>aJ f true (aN prog n9 E.1) E.2 λF=>aJ f true (eM F.1 (I 1)) F.2 λG=>aJ f true (dY D.1 G.1) G.2 λd=>(bN f d.1 (B false)).bind λR=>aL R ((aA true 4 a d.2).bind λS=>(aB 2 i).bind λT=>(aA true 2 T d.2).bind λU=>(aI c pV [S,U] d.2).bind λe=>aJ e.1 false (aA true 4 i e.2) e.2 λH=>aJ e.1 false (aB 0 a) H.2 λx=>aJ e.1 false (aA true 2 x.1 x.2) x.2 λy=>eR e.1 false (aI c pV [H.1,y.1] y.2) y.2 λJ=>(bN e.1 (B true) J.1).bind λV=>AW c h u r s j g a V k l n o p t J.2 (q+26)) ((aA true 4 a d.2).bind λW=>(aA true 4 i d.2).bind λX=>(aI c FE [W,X] d.2).bind λK=>AW c h u r s j g a K.1 k l n o p t K.2 (q+19)))
def R'(c:aK)(h:FHs)(u:Nat)(r:bZ)(s:pD):pD:=λe f g i j k b l a m q=>(aT 4 b a).bind λn=>(aA true 4 n m).bind λo=>dH sD (u,q+3,11) m λd p=>aZ 4 d o p λt=>S' c h u r s e f g a d i j k b l a t (q+7)
def XJ(c:aK)(h:FHs)(u:Nat)(r:bZ)(s:pD):pD:=λa i j b d e k f g m q=>(bU g f).bind λl=>aL l (R' c h u r s a i j b d e k f g m (q+1)) (V' c h u r a b d e m (q+1))
def I9(c:aK)(h:FHs)(u:Nat)(r:bZ):Nat->pD
 |0=>λ_ _ _ _ _ _ _ _ _ _ _=>none
 |n+1=>XJ c h u r (I9 c h u r n)
def Q'(c:aK)(h:FHs)(u:Nat)(r:bZ):bZ:=λb d g a m q=>(aT 4 d a).bind λi=>(aA true 4 i m).bind λj=>dH sD (u,q+3,9) m λe k=>aZ 4 e j k λl=>(eP prog n9 b none (some a)).bind λf=>(aN prog n9 f).bind λn=>I9 c h u r NN b a e d g a f n (I 0) l (q+11)
def XI(c:aK)(h:FHs)(u:Nat)(r:bZ):bZ:=λd e a b m q=>(bU b a).bind λf=>aL f (Q' c h u r d e a b m (q+1)) (Y' c h u m (q+1))
def J0(c:aK)(h:FHs)(u:Nat):Nat->bZ
 |0=>λ_ _ _ _ _ _=>none
 |n+1=>XI c h u (J0 c h u n)
def P':cI:=λc h u a m q=>(aN prog n9 a).bind λb=>J0 c h u NN a a b (I 0) m (q+3)
def XN:cI:=λc h u b m q=>(aI c C7 [b,(I 1)] m).bind λa=>P' c h u a.1 a.2 (q+3)
def XM(c:aK)(h:FHs)(u:Nat)(w:dE):dE:=λg e i j f m q=>(bU f j).bind λn=>aL n ((aT 3 i f).bind λo=>(aA true 3 o m).bind λp=>dH xQ (u,q+3,5) m λd r=>aZ 3 d p r λk=>(aA true 3 d k).bind λs=>(aI c T3 [s] k).bind λa=>(eC a.1 (I 0)).bind λt=>aL t (some (a.1,a.2)) ((aA true 3 d a.2).bind λv=>(aI c LO [v] a.2).bind λb=>(yC prog BK e b.1 false b.2).bind λx=>aL x (some ((I 28),b.2)) ((aA true 3 d b.2).bind λy=>(aI c LO [y] b.2).bind λl=>uK prog BK e l.1 (B true) l.2 λz=>(bI f (I 1)).bind λA=>w g e i j A z (q+20)))) (XN c h u g m (q+1))
def AO(c:aK)(h:FHs)(u:Nat):Nat->dE
 |0=>λ_ _ _ _ _ _ _=>none
 |n+1=>XM c h u (AO c h u n)
def U':bR:=λc h u a b m q=>(aN prog pF a).bind λd=>AO c h u NN a b a d (I 0) m (q+3)
def XL:cI:=λc h u a m q=>(aN prog pF a).bind λb=>(bU b (I 3)).bind λd=>aL d (some ((I 10),m)) ((aN prog pF a).bind λe=>(eQ e (I 20)).bind λf=>aL f (some ((I 8),m)) (CM (u,q+9,21) m λg i=>U' c h u a g i (q+11)))
def xu:cI:=λc h u a m q=>(dL a).bind λb=>aL b (some ((I 2),m)) (some ((I 0),m))
def IA:bR:=λc h u d a m q=>(pO a).bind λe=>(aI c rM [d,e,a] m).bind λb=>some (b.1,b.2)
def WH:bR:=λc h u a b m q=>(aB 3 b).bind λd=>(aA false 1 d m).bind λe=>(aT 4 e a).bind λf=>(aB 0 f).bind λg=>(aA false 1 g m).bind λi=>some (i,m)
def WF:bR:=λc h u a b m q=>(aB 4 b).bind λd=>(aA false 1 d m).bind λe=>(aT 2 e a).bind λf=>(aB 0 f).bind λg=>(aA false 1 g m).bind λi=>some (i,m)
def VV(c:aK)(h:FHs)(u:Nat)(r:eB):eB:=λi j k l n d m q=>(bU d n).bind λt=>aL t ((aT 4 l d).bind λv=>(aA true 4 v m).bind λw=>dH l9 (u,q+4,5) m λo x=>aZ 4 o w x λa=>(aB 0 j).bind λy=>(aA false 1 y a).bind λz=>(cA z).bind λA=>(aB 2 A).bind λC=>(aA false 1 C a).bind λD=>(aA false 1 k a).bind λE=>(aT 3 D E).bind λF=>(aB 1 F).bind λG=>(aA false 1 G a).bind λH=>(aB 1 o).bind λJ=>(aA true 3 J a).bind λK=>(aI c FJ [H,K] a).bind λe=>(dB e.1 0).bind λb=>(dB e.1 1).bind λN=>bD b true i e.2 λp=>bD b true d p.2 λf=>eR b true (fI c h 2 p.1 [f.1] f.2) f.2 λs=>aJ b true (dL s.1) s.2 λg=>(bN b g.1 (B false)).bind λL=>aL L (some (AV.tup [],g.2)) ((bI d (I 1)).bind λM=>r i j k l n M g.2 (q+33))) ((some (AV.tup [],m)))
def AE(c:aK)(h:FHs)(u:Nat):Nat->eB
 |0=>λ_ _ _ _ _ _ _ _=>none
 |n+1=>VV c h u (AE c h u n)
def IG:gB:=λc h u d a e m q=>(aB 0 a).bind λf=>(aA false 1 f m).bind λg=>(cA g).bind λi=>(aB 3 i).bind λj=>(aA false 1 j m).bind λb=>(aN prog qP b).bind λk=>AE c h u NN d a e b k (I 0) m (q+7)
def XH:bR:=λc h u b l m q=>cD l (u,q,3) m λd g=>(aI c T4 [b] g).bind λe=>(aA true 3 d e.2).bind λn=>(aI c T3 [n] e.2).bind λi=>dC qO [(0,1,e.1),(1,1,i.1)] 2 1 (u,q+7,11) i.2 λo p=>(aI c FG [o] p).bind λa=>bif(cV (some g.next) (tR d) (cB 0 [b])&&true)then (eC a.1 (I 0)).bind λr=>aL r (some (AV.tup [(B false),a.1],a.2)) ((aI c C7 [b,(I 1)] a.2).bind λf=>(aA true 3 d f.2).bind λs=>(aI c LO [s] f.2).bind λj=>(aI c FF [f.1,j.1] j.2).bind λk=>bif(cV (some a.2.next) (tR d) (cB 0 [b,(I 1)])&&true)then some (AV.tup [k.1,(I 0)],k.2)else none)else none
def VS:bR:=λc h u d e m q=>cD d (u,q,2) m λf g=>cD e (u,q+1,3) g λi a=>(aB 0 f).bind λj=>(aA false 1 j a).bind λk=>(cA k).bind λl=>(aB 3 l).bind λn=>(aA false 1 n a).bind λo=>(dZ c DU [o,(AV.clo C1 [i])] a).bind λb=>some (b.1,b.2)
def PM:bR:=λc h u b d m q=>(aI c A9 [b,d] m).bind λa=>(kL a.1 (I 0)).bind λe=>some (e,a.2)
def WV:bR:=λc h u b d m q=>(aI c C5 [b,d] m).bind λa=>(kL a.1 (I 0)).bind λe=>aL e ((eP prog cF b none (some a.1)).bind λf=>(fL d).bind λg=>(bI a.1 g).bind λi=>(eP prog cF b (some i) none).bind λj=>some (AV.tup [f,j,(B true)],a.2)) (some (AV.tup [b,(AV.sc (.string ⟨#[]⟩)),(B false)],a.2))
def xlr:iM:=λc h u m q=>some ((I (-1)),m)
def xlq(c:aK)(h:FHs)(u:Nat)(r:bZ):bZ:=λd e f a m q=>(bU a f).bind λg=>aL g ((aT 2 d a).bind λi=>(aA true 2 i m).bind λj=>(fI c h 2 e [j] m).bind λb=>aL b.1 (some (a,b.2)) ((bI a (I 1)).bind λk=>r d e f k b.2 (q+11))) (xlr c h u m (q+1))
def NZ(c:aK)(h:FHs)(u:Nat):Nat->bZ
 |0=>λ_ _ _ _ _ _=>none
 |n+1=>xlq c h u (NZ c h u n)
def wq:bR:=λc h u a b m q=>(aN prog pG a).bind λd=>NZ c h u NN a b d (I 0) m (q+3)
def RW:bR:=λc h u a b m q=>wq c h u a b m (q+1)
def UV:bR:=λc h u b d m q=>cD b (u,q,2) m λe a=>(aB 0 e).bind λf=>(aA false 1 f a).bind λg=>(aB 0 d).bind λi=>(aA false 1 i a).bind λj=>(cO prog .eql cF (.tmp 5) (.tmp 7) g j).bind λk=>some (k,a)
def VM:cI:=λc h u d m q=>(aI c sO [d,(AV.sc (.string ⟨#[32]⟩))] m).bind λa=>(dB a.1 0).bind λj=>(dB a.1 1).bind λz=>(dB a.1 2).bind λo=>(aI c wI [j] a.2).bind λe=>(dB e.1 0).bind λp=>(dB e.1 1).bind λr=>dH vO (u,q+15,6) e.2 λs t=>aZ 3 s p t λk=>(fL d).bind λv=>(eQ v (I 200)).bind λw=>aL w (some ((I 8),k)) ((aI c O0 [d,(AV.sc (.string ⟨#[10]⟩))] k).bind λb=>bD b.1 false o b.2 λl=>aJ b.1 false (dL l.1) l.2 λf=>(bN b.1 (B true) f.1).bind λx=>aL x (some ((I 7),f.2)) ((dL r).bind λg=>bD g true j f.2 λn=>aJ g true (cO prog .neq cF (.tmp 34) (.const (.string ⟨#[102,105,120]⟩)) n.1 (AV.sc (.string ⟨#[102,105,120]⟩))) n.2 λi=>(bN g i.1 (B false)).bind λy=>aL y (some ((I 15),i.2)) (some ((I 0),i.2))))
def AS:gB:=λc h u b d a m q=>dC lW [(0,1,(AV.sc (.string ⟨#[]⟩)))] 1 1 (u,q+3,106) m λe f=>cX 1 16 (u,q+4,107) (elems f.get 1 e) d f λi g=>(aA true 5 a g).bind λj=>(cA b).bind λk=>(aB 1 k).bind λl=>aZ 1 l i g λn=>(cA b).bind λo=>(aB 2 o).bind λp=>aZ 5 p j n λr=>bif(aY (some [],some [(u,q+3,106)]) (tR a)&&(aY (tX e,tA (u,q+4,107) d) (tR a)&&true))then some ((I 0),r)else none
def UY(c:aK)(h:FHs)(u:Nat)(r:gY):gY:=λa b d e f g i m q=>(bI i (I 1)).bind λj=>r a b d e f g j m (q+2)
def yf(c:aK)(h:FHs)(u:Nat)(r:gY):gY:=λj e k f g l a m q=>(aT 1 g a).bind λt=>(aA false 1 t m).bind λn=>(cO prog .eql cF (.tmp 87) (.const (.string ⟨#[]⟩)) n (AV.sc (.string ⟨#[]⟩))).bind λb=>bD b true a m λo=>bD b true e o.2 λp=>aJ b true (eM p.1 (I 1)) p.2 λs=>aJ b true (eC o.1 s.1) s.2 λi=>(bN b i.1 (B false)).bind λv=>aL v (UY c h u r j e k f g l a i.2 (q+13)) ((bI a (I 1)).bind λw=>(c h wM [f,n,w] i.2).bind λd=>(eC d.1 (I 0)).bind λx=>aL x (some (d.1,d.2)) (UY c h u r j e k f g l a d.2 (q+20)))
def UX(c:aK)(h:FHs)(u:Nat)(r:gY):gY:=λa g b d i e f m q=>(bU f e).bind λj=>aL j (yf c h u r a g b d i e f m (q+1)) (AS c h u a b d m (q+1))
def d5(c:aK)(h:FHs)(u:Nat):Nat->gY
 |0=>λ_ _ _ _ _ _ _ _ _=>none
 |n+1=>UX c h u (d5 c h u n)
def ye:nA:=λc h u b d a e m q=>(aN prog gR a).bind λf=>d5 c h u NN b d a e a f (I 0) m (q+3)
def UW:bR:=λc h u a A m q=>(aI c sO [A,(AV.sc (.string ⟨#[32]⟩))] m).bind λd=>(dB d.1 0).bind λC=>(dB d.1 1).bind λe=>(dB d.1 2).bind λD=>(aI c yP [C] d.2).bind λj=>(dB j.1 0).bind λf=>(dB j.1 1).bind λE=>(dL D).bind λk=>bD k false E j.2 λs=>aJ k false (dL s.1) s.2 λt=>(bN k (B true) t.1).bind λl=>bD l false e t.2 λv=>aJ l false (cO prog .eql cF (.tmp 34) (.const (.string ⟨#[]⟩)) v.1 (AV.sc (.string ⟨#[]⟩))) v.2 λg=>(bN l (B true) g.1).bind λF=>aL F (some ((I 7),g.2)) ((cA a).bind λG=>(aB 1 G).bind λH=>(aA false 1 H g.2).bind λJ=>(aN prog gR J).bind λK=>(aI c rM [f,(I 1),K] g.2).bind λb=>(dL b.1).bind λL=>aL L (some ((I 6),b.2)) ((cA a).bind λM=>(aB 1 M).bind λN=>(aA false 1 N b.2).bind λO=>(eM f (I 1)).bind λP=>(aT 1 O P).bind λQ=>(aA false 1 Q b.2).bind λR=>(cO prog .eql cF (.tmp 54) (.const (.string ⟨#[]⟩)) R (AV.sc (.string ⟨#[]⟩))).bind λn=>bD n false e b.2 λo=>eR n false (aI c N9 [o.1,(AV.sc (.string ⟨#[102,105,120,32]⟩))] o.2) o.2 λw=>(bN n (B true) w.1).bind λp=>bD p false e w.2 λx=>aJ p false (cO prog .eql cF (.tmp 61) (.const (.string ⟨#[102,105,120]⟩)) x.1 (AV.sc (.string ⟨#[102,105,120]⟩))) x.2 λi=>(bN p (B true) i.1).bind λS=>aL S (some ((I 15),i.2)) ((cA a).bind λT=>(aB 1 T).bind λU=>(aA false 1 U i.2).bind λV=>(uL c Q6 [V] i.2).bind λr=>(eM f (I 1)).bind λW=>(aT 1 r.1 W).bind λX=>aZ 1 X e r.2 λy=>(cA a).bind λY=>(aB 0 Y).bind λZ=>(aA false 1 Z y).bind λaa=>(cW BH []).bind λab=>(cW jY [(0,1,aa),(1,4,ab)]).bind λac=>dH jY (u,q+73,11) y λz ad=>aZ 5 z ac ad λae=>ye c h u a f r.1 z ae (q+75))))
def VW:gB:=λc h u p l r m q=>(aI c yQ [l] m).bind λb=>(eC b.1 (I 0)).bind λs=>aL s (some (b.1,b.2)) ((aI c sO [l,(AV.sc (.string ⟨#[32]⟩))] b.2).bind λd=>(dB d.1 0).bind λt=>(dB d.1 1).bind λv=>(dB d.1 2).bind λL=>(aI c wI [t] d.2).bind λg=>(dB g.1 0).bind λw=>(dB g.1 1).bind λx=>dH vO (u,q+20,11) g.2 λi y=>aZ 3 i w y λn=>(dL x).bind λz=>aL z (some ((I 15),n)) ((aI c N8 [v,(AV.sc (.string ⟨#[32]⟩))] n).bind λa=>(aN prog gR a.1).bind λA=>(aB 1 i).bind λC=>(aA false 1 C a.2).bind λD=>(eC A D).bind λj=>bD j false a.1 a.2 λk=>eR j false (aI c Q3 [k.1,(AV.sc (.string ⟨#[]⟩))] k.2) k.2 λe=>(bN j (B true) e.1).bind λE=>aL E (some ((I 7),e.2)) ((aB 2 i).bind λF=>(aA false 1 F e.2).bind λG=>(fI c h 2 G [a.1] e.2).bind λf=>(dB f.1 0).bind λH=>(dB f.1 1).bind λJ=>(dL J).bind λK=>aL K (some ((I 7),f.2)) ((V3 prog c h 2 H "swath/office.do" [p,r] f.2).bind λo=>some (o.1,o.2)))))
def SP:cI:=λc h u a m q=>(aN prog gR a).bind λb=>(aN prog gR a).bind λd=>(nH prog gR a none b d).bind λe=>some (e,m)
def TS:gB:=λc h u L M N m q=>cD L (u,q,3) m λb O=>cD M (u,q+1,4) O λe P=>cD N (u,q+2,5) P λf d=>(aA true 3 b d).bind λQ=>(aA true 3 e d).bind λR=>(aA true 3 f d).bind λS=>(aI c EK [Q,R,S] d).bind λr=>(dY r.1 (I 0)).bind λa=>aJ a true (aB 0 e) r.2 λg=>aJ a true (aA false 1 g.1 g.2) g.2 λs=>aJ a true (aB 0 b) s.2 λi=>aJ a true (aA false 1 i.1 i.2) i.2 λt=>aJ a true (eM s.1 t.1) t.2 λv=>aJ a true (aB 0 f) v.2 λj=>aJ a true (aA false 1 j.1 j.2) j.2 λw=>aJ a true (aB 0 b) w.2 λk=>aJ a true (aA false 1 k.1 k.2) k.2 λx=>aJ a true (eM w.1 x.1) x.2 λy=>aJ a true (jP v.1 y.1) y.2 λz=>aJ a true (aB 1 e) z.2 λl=>aJ a true (aA false 1 l.1 l.2) l.2 λA=>aJ a true (aB 1 b) A.2 λn=>aJ a true (aA false 1 n.1 n.2) n.2 λC=>aJ a true (eM A.1 C.1) C.2 λD=>aJ a true (aB 1 f) D.2 λo=>aJ a true (aA false 1 o.1 o.2) o.2 λE=>aJ a true (aB 1 b) E.2 λp=>aJ a true (aA false 1 p.1 p.2) p.2 λF=>aJ a true (eM E.1 F.1) F.2 λG=>aJ a true (jP D.1 G.1) G.2 λH=>aJ a true (bI z.1 H.1) H.2 λJ=>aJ a true (eQ J.1 (I 0)) J.2 λK=>(bN a K.1 (B false)).bind λT=>some (T,K.2)
def TQ:nA:=λc h u R S T U m q=>cD R (u,q,4) m λf V=>cD S (u,q+1,5) V λd W=>cD T (u,q+2,6) W λg X=>cD U (u,q+3,7) X λe r=>(aA true 3 f r).bind λY=>(aA true 3 d r).bind λZ=>(aA true 3 g r).bind λaa=>(aI c yO [Y,Z,aa] r).bind λi=>aJ i.1 false (aA true 3 f i.2) i.2 λw=>aJ i.1 false (aA true 3 d w.2) w.2 λx=>aJ i.1 false (aA true 3 e x.2) x.2 λy=>eR i.1 false (aI c yO [w.1,x.1,y.1] y.2) y.2 λz=>(bN i.1 (B true) z.1).bind λn=>aJ n false (aA true 3 g z.2) z.2 λA=>aJ n false (aA true 3 e A.2) A.2 λC=>aJ n false (aA true 3 f C.2) C.2 λD=>eR n false (aI c yO [A.1,C.1,D.1] D.2) D.2 λE=>(bN n (B true) E.1).bind λo=>aJ o false (aA true 3 g E.2) E.2 λF=>aJ o false (aA true 3 e F.2) F.2 λG=>aJ o false (aA true 3 d G.2) G.2 λH=>eR o false (aI c yO [F.1,G.1,H.1] H.2) H.2 λa=>(bN o (B true) a.1).bind λab=>aL ab (some ((B true),a.2)) ((aA true 3 f a.2).bind λs=>(aA true 3 d a.2).bind λt=>(aA true 3 g a.2).bind λv=>(aI c yN [s,t,v] a.2).bind λp=>(aA true 3 f p.2).bind λac=>(aA true 3 d p.2).bind λad=>(aA true 3 e p.2).bind λae=>(aI c yN [ac,ad,ae] p.2).bind λJ=>(jP p.1 J.1).bind λaf=>(bU af (I 0)).bind λb=>aJ b true (aA true 3 g J.2) J.2 λj=>aJ b true (aA true 3 e j.2) j.2 λk=>aJ b true (aA true 3 f k.2) k.2 λl=>eR b true (aI c yN [j.1,k.1,l.1] l.2) l.2 λK=>aJ b true (aA true 3 g K.2) K.2 λL=>aJ b true (aA true 3 e L.2) L.2 λM=>aJ b true (aA true 3 d M.2) M.2 λN=>eR b true (aI c yN [L.1,M.1,N.1] N.2) N.2 λO=>aJ b true (jP K.1 O.1) O.2 λP=>aJ b true (bU P.1 (I 0)) P.2 λQ=>(bN b Q.1 (B false)).bind λag=>bif(cV (some a.2.next) (tR f) (cB 0 [s,t,v])&&(cV (some a.2.next) (tR d) (cB 0 [s,t,v])&&(cV (some a.2.next) (tR e) (cB 0 [s,t,v])&&(cV (some a.2.next) (tR g) (cB 0 [j.1,k.1,l.1])&&(cV (some a.2.next) (tR e) (cB 0 [j.1,k.1,l.1])&&(cV (some a.2.next) (tR d) (cB 0 [j.1,k.1,l.1])&&true))))))then some (ag,Q.2)else none)
def TR:cI:=λc h u b m q=>(aI c rR [b,(I (-100000000)),(I 100000000)] m).bind λa=>some (a.1,a.2)
def yn:gB:=λc h u a d e m q=>(aA true 4 d m).bind λf=>aZ 4 a f m λb=>(gT true 4 a b).bind λr0=>some (AV.tup [r0,e],b)
def AT(c:aK)(h:FHs)(u:Nat)(r:gY):gY:=λa b d e f g i m q=>(bI i (I 1)).bind λj=>r a b d e f g j m (q+2)
def ym(c:aK)(h:FHs)(u:Nat)(r:gY):gY:=λf n a g i o j m q=>(aT 4 i j).bind λF=>(aA true 4 F m).bind λG=>dH tW (u,q+2,9) m λb H=>aZ 4 b G H λd=>(aB 0 b).bind λJ=>(aA false 1 J d).bind λK=>(eC K f).bind λL=>aL L (AT c h u r f n a g i o j d (q+8)) ((aB 0 a).bind λM=>(aB 1 M).bind λN=>(aA false 1 N d).bind λO=>(aB 1 b).bind λP=>(aA false 1 P d).bind λQ=>(aB 2 b).bind λR=>(aA false 1 R d).bind λS=>(cW xP [(0,1,Q),(1,1,S)]).bind λT=>dC xP [(0,2,T)] 1 2 (u,q+16,35) d λU x=>cX 2 16 (u,q+17,36) (elems x.get 2 U) O x λV W=>(aB 0 a).bind λX=>(aB 1 X).bind λY=>aZ 1 Y V W λp=>(aB 2 a).bind λs=>(aA false 1 s p).bind λt=>(aB 3 b).bind λy=>(aA false 1 y p).bind λZ=>dC iN [(0,1,Z)] 1 1 (u,q+25,43) p λv z=>cX 1 8 (u,q+26,44) (elems z.get 1 v) t z λaa A=>(aB 3 a).bind λk=>(aA false 1 k A).bind λab=>dC iN [(0,1,(I 1))] 1 1 (u,q+29,47) A λac C=>cX 1 8 (u,q+30,48) (elems C.get 1 ac) ab C λad ae=>(aB 2 a).bind λaf=>aZ 1 af aa ae λag=>(aB 3 a).bind λah=>aZ 1 ah ad ag λai=>bif(aY (tR s) (some [],some [(u,q+25,43)])&&(aY (some [],some [(u,q+25,43)]) (tR k)&&(aY (tX v,tA (u,q+26,44) t) (tR k)&&(aY (tR s) (some [],some [(u,q+29,47)])&&(aY (tR y) (some [],some [(u,q+29,47)])&&(aY (some [],some [(u,q+25,43)]) (some [],some [(u,q+29,47)])&&(aY (tX v,tA (u,q+26,44) t) (some [],some [(u,q+29,47)])&&(aY (tR k) (some [],some [(u,q+29,47)])&&true))))))))then (bU g (I 0)).bind λe=>aJ e false (aB 1 b) ai λw=>aJ e false (aA false 1 w.1 w.2) w.2 λD=>bD e false g D.2 λE=>aJ e false (bU D.1 E.1) E.2 λl=>(bN e (B true) l.1).bind λaj=>aL aj ((aB 1 b).bind λak=>(aA false 1 ak l.2).bind λal=>AT c h u r f n a al i o j l.2 (q+46)) (AT c h u r f n a g i o j l.2 (q+43))else none)
def VO(c:aK)(h:FHs)(u:Nat)(r:gY):gY:=λg a b d i e f m q=>(bU f e).bind λj=>aL j (ym c h u r g a b d i e f m (q+1)) (yn c h u a b d m (q+1))
def I7(c:aK)(h:FHs)(u:Nat):Nat->gY
 |0=>λ_ _ _ _ _ _ _ _ _=>none
 |n+1=>VO c h u (I7 c h u n)
def yk:xla:=λc h u b d e f g m q=>(aB 1 d).bind λi=>(aB 1 i).bind λj=>(aA false 1 j m).bind λa=>(aN prog qQ a).bind λk=>I7 c h u NN b e f g a k (I 0) m (q+5)
def VN:bR:=λc h u e f m q=>cD e (u,q,2) m λa g=>dH BG (u,q+1,4) g λi b=>(aB 1 a).bind λj=>(aB 0 j).bind λk=>(aA false 1 k b).bind λl=>(cW xa0 [(0,1,l)]).bind λn=>(cW BG [(0,2,n)]).bind λo=>dH BG (u,q+8,6) b λd p=>aZ 4 d o p λr=>yk c h u f a i d (I (-1)) r (q+11)
def vn:cI:=λc h u a m q=>some (AV.tup [a,nilS,(I 0)],m)
def HT(c:aK)(h:FHs)(u:Nat)(r:gY):gY:=λa b d e f g i m q=>(bI i (I 1)).bind λj=>r a b d e f g j m (q+2)
def vm(c:aK)(h:FHs)(u:Nat)(r:gY):gY:=λa e b g f i d m q=>(aT 1 f d).bind λl=>(aA false 1 l m).bind λn=>(aT 1 b d).bind λo=>(aA false 1 o m).bind λp=>(aT 1 b a).bind λs=>(aA false 1 s m).bind λt=>(dY p t).bind λv=>aL v ((aT 1 e a).bind λw=>(aA false 1 w m).bind λx=>(eM n x).bind λy=>dC iN [(0,1,y)] 1 1 (u,q+21,83) m λz j=>cX 1 8 (u,q+22,84) (elems j.get 1 z) g j λA B=>HT c h u r a e b A f i d B (q+24)) (dC iN [(0,1,(I 1000000000000))] 1 1 (u,q+15,86) m λC k=>cX 1 8 (u,q+16,87) (elems k.get 1 C) g k λD E=>HT c h u r a e b D f i d E (q+18))
def QW(c:aK)(h:FHs)(u:Nat)(r:gY):gY:=λe f g a i b d m q=>(bU d b).bind λj=>aL j (vm c h u r e f g a i b d m (q+1)) (vn c h u a m (q+1))
def Y9(c:aK)(h:FHs)(u:Nat):Nat->gY
 |0=>λ_ _ _ _ _ _ _ _ _=>none
 |n+1=>QW c h u (Y9 c h u n)
def vl:nA:=λc h u b a d e m q=>(aN prog fG a).bind λf=>Y9 c h u NN b a d e a f (I 0) m (q+3)
def vk:nA:=λc h u i j a d m q=>(aN prog fG d).bind λk=>(eQ k (I 0)).bind λl=>aL l (some (AV.tup [nilS,d,(I 26)],m)) ((aA true 2 a m).bind λe=>(aB 2 j).bind λn=>(aA false 1 n m).bind λf=>(aI c B1 [e,f] m).bind λb=>(aA true 2 a b.2).bind λo=>(aI c P2 [o,(I (-1))] b.2).bind λg=>bif(cV (some m.next) (tR a) (cB 0 [e,f])&&true)then vl c h u i b.1 g.1 nilS g.2 (q+12)else none)
def HS(c:aK)(h:FHs)(u:Nat)(s:gY):gY:=λa b d e f g i m q=>(bI i (I 1)).bind λj=>s a b d e f g j m (q+2)
def vj(c:aK)(h:FHs)(u:Nat)(s:gY):gY:=λd e f g b i a m q=>(aT 1 b a).bind λk=>(aA false 1 k m).bind λl=>(eC l (I 0)).bind λn=>aL n (dC iN [(0,1,a)] 1 1 (u,q+9,47) m λo j=>cX 1 8 (u,q+10,48) (elems j.get 1 o) g j λp r=>HS c h u s d e f p b i a r (q+12)) (HS c h u s d e f g b i a m (q+7))
def QV(c:aK)(h:FHs)(u:Nat)(s:gY):gY:=λa b d e i f g m q=>(bU g f).bind λj=>aL j (vj c h u s a b d e i f g m (q+1)) (vk c h u a b d e m (q+1))
def Y8(c:aK)(h:FHs)(u:Nat):Nat->gY
 |0=>λ_ _ _ _ _ _ _ _ _=>none
 |n+1=>QV c h u (Y8 c h u n)
def vi:nA:=λc h u e b d f m q=>(aA true 2 d m).bind λg=>(aB 2 b).bind λi=>(aA false 1 i m).bind λj=>(aI c O8 [g,j] m).bind λa=>(aN prog fG a.1).bind λk=>Y8 c h u NN e b d f a.1 k (I 0) a.2 (q+6)
def QX:bR:=λc h u j f m q=>cD j (u,q,2) m λb g=>(aA true 4 b g).bind λk=>(aI c DN [k] g).bind λa=>(eC a.1 (I 0)).bind λl=>aL l (some (AV.tup [nilS,nilS,a.1],a.2)) ((aB 0 b).bind λn=>(aA true 2 n a.2).bind λo=>(cW YA [(0,2,o)]).bind λp=>dH YA (u,q+12,8) a.2 λd r=>aZ 2 d p r λi=>(aB 0 d).bind λs=>(aB 0 s).bind λt=>(aA false 1 t i).bind λv=>(aN prog lX v).bind λw=>(eM w (I 1)).bind λx=>(aI c uT [f,(I 0),x] i).bind λe=>(dL e.1).bind λy=>aL y (some (AV.tup [nilS,nilS,(I 6)],e.2)) (vi c h u f b d nilS e.2 (q+23)))
def xb:cI:=λc h u a m q=>(aB 2 a).bind λe=>(aA false 1 e m).bind λf=>(aB 0 a).bind λg=>(aA false 1 g m).bind λi=>(eM f i).bind λb=>(aB 1 a).bind λj=>(aA false 1 j m).bind λk=>(aB 3 a).bind λl=>(aA false 1 l m).bind λn=>(bI k n).bind λd=>(aB 4 a).bind λo=>(aA false 1 o m).bind λp=>(pO p).bind λr=>(bI b d).bind λs=>(jP r s).bind λt=>(aB 4 a).bind λv=>(aA false 1 v m).bind λw=>(pO w).bind λx=>(eM b d).bind λy=>(jP x y).bind λz=>some (AV.tup [t,z,(I 0)],m)
def HZ:bR:=λc h u a b m q=>aL b (some (AV.tup [(I 0),(I 0),(I 2)],m)) (xb c h u a m q)
def xa:cI:=λc h u a m q=>(aB 0 a).bind λv=>(aA false 1 v m).bind λw=>(aI c R0 [w,(I 100000000)] m).bind λl=>(dL l.1).bind λb=>aJ b false (aB 2 a) l.2 λg=>aJ b false (aA false 1 g.1 g.2) g.2 λi=>eR b false (aI c R0 [i.1,(I 100000000)] i.2) i.2 λn=>aJ b false (dL n.1) n.2 λe=>(bN b (B true) e.1).bind λo=>aL o (HZ c h u a o e.2 (q+11)) ((aB 1 a).bind λx=>(aA false 1 x e.2).bind λy=>(aI c wE [y,(I 0),(I 2048)] e.2).bind λp=>(dL p.1).bind λd=>aJ d false (aB 3 a) p.2 λj=>aJ d false (aA false 1 j.1 j.2) j.2 λk=>eR d false (aI c wE [k.1,(I 0),(I 2048)] k.2) k.2 λr=>aJ d false (dL r.1) r.2 λf=>(bN d (B true) f.1).bind λs=>aL s (HZ c h u a s f.2 (q+22)) ((aB 4 a).bind λz=>(aA false 1 z f.2).bind λA=>(aI c wE [A,(I 1),(I 10000)] f.2).bind λt=>(dL t.1).bind λC=>HZ c h u a C t.2 (q+27)))
def SX:cI:=λc h u a m q=>cD a (u,q,1) m λb d=>xa c h u b d (q+4)
def SV:gB:=λc h u b g i m q=>(iT g b).bind λa=>bD a true b m λd=>bD a true i d.2 λe=>aJ a true (iT d.1 e.1) e.2 λf=>(bN a f.1 (B false)).bind λj=>some (j,f.2)
def XE:cI:=λc h u e m q=>cD e (u,q,1) m λb a=>(aB 0 b).bind λf=>(aA false 1 f a).bind λg=>(aB 1 b).bind λi=>(aA false 1 i a).bind λj=>(aB 2 b).bind λk=>(aA false 1 k a).bind λl=>dC iN [(0,1,g),(1,1,j),(2,1,l)] 3 1 (u,q+8,9) a λn o=>(aI c FI [(I (-100000000)),(I 100000000),n] o).bind λd=>(dL d.1).bind λp=>aL p (some ((I 2),d.2)) (some ((I 0),d.2))
def i':cI:=λc h u a m q=>some (a,m)
def WY(c:aK)(h:FHs)(u:Nat)(r:eB):eB:=λe a i j k d m q=>(bU d k).bind λo=>aL o ((aT 3 j d).bind λp=>(aA true 3 p m).bind λs=>dH xQ (u,q+4,7) m λf t=>aZ 3 f s t λl=>(bI d (I 1)).bind λv=>(aN prog pF e).bind λw=>(oG v w).bind λx=>(aT 3 e x).bind λy=>(aA true 3 y l).bind λz=>dH xQ (u,q+15,8) l λg A=>aZ 3 g z A λb=>(aB 0 f).bind λB=>(aA false 1 B b).bind λC=>(jP a C).bind λD=>(aB 1 f).bind λE=>(aA false 1 E b).bind λF=>(jP a F).bind λG=>(cW JB [(0,1,D),(1,1,G)]).bind λH=>(aB 0 g).bind λJ=>(aA false 1 J b).bind λK=>(jP a K).bind λL=>(aB 1 g).bind λM=>(aA false 1 M b).bind λN=>(jP a N).bind λO=>(cW JB [(0,1,L),(1,1,O)]).bind λP=>(cW sD [(0,2,H),(2,2,P)]).bind λQ=>dC sD [(0,4,Q)] 1 4 (u,q+37,44) b λR n=>cX 4 32 (u,q+38,45) (elems n.get 4 R) i n λS T=>(bI d (I 1)).bind λU=>r e a S j k U T (q+42)) (i' c h u i m (q+1))
def AM(c:aK)(h:FHs)(u:Nat):Nat->eB
 |0=>λ_ _ _ _ _ _ _ _=>none
 |n+1=>WY c h u (AM c h u n)
def zz:gB:=λc h u a b d m q=>(aN prog pF a).bind λe=>AM c h u NN a b d a e (I 0) m (q+3)
def WX:bR:=λc h u a b m q=>zz c h u a b nilS m (q+2)
def XB:bR:=λc h u t v m q=>cD t (u,q,2) m λi w=>cD v (u,q+1,3) w λf e=>(aA true 4 i e).bind λx=>(aA true 2 f e).bind λy=>(aI c uW [x,y] e).bind λo=>(dY o.1 (I 0)).bind λa=>aJ a true (aB 0 i) o.2 λj=>aJ a true (aA true 2 j.1 j.2) j.2 λb=>aJ a true (aA true 2 f b.2) b.2 λd=>eR a true (aI c FH [b.1,d.1] d.2) d.2 λp=>aJ a true (aB 2 i) p.2 λg=>aJ a true (aA true 2 g.1 g.2) g.2 λk=>aJ a true (aA true 2 f k.2) k.2 λl=>eR a true (aI c FH [k.1,l.1] l.2) l.2 λn=>eR a true (aI c xff [p.1,n.1] n.2) n.2 λr=>aJ a true (iT r.1 (I 0)) r.2 λs=>(bN a s.1 (B false)).bind λz=>bif(Nat.ble 1 (cB 0 [b.1,d.1])&&true)&&(cV (some e.next) (tR g.1) (cB 0 [b.1,d.1])&&(cV (some e.next) (tR f) (cB 0 [b.1,d.1])&&true))then some (z,s.2)else none
def XA:bR:=λc h u N O m q=>cD N (u,q,2) m λb P=>cD O (u,q+1,3) P λd r=>(aA true 4 b r).bind λQ=>(aB 0 d).bind λR=>(aA true 2 R r).bind λS=>(aI c pV [Q,S] r).bind λf=>aJ f.1 false (aA true 4 b f.2) f.2 λG=>aJ f.1 false (aB 2 d) G.2 λs=>aJ f.1 false (aA true 2 s.1 s.2) s.2 λt=>eR f.1 false (aI c pV [G.1,t.1] t.2) t.2 λv=>(bN f.1 (B true) v.1).bind λi=>aJ i false (aA true 4 d v.2) v.2 λH=>aJ i false (aB 0 b) H.2 λw=>aJ i false (aA true 2 w.1 w.2) w.2 λx=>eR i false (aI c pV [H.1,x.1] x.2) x.2 λy=>(bN i (B true) y.1).bind λj=>aJ j false (aA true 4 d y.2) y.2 λI=>aJ j false (aB 2 b) I.2 λz=>aJ j false (aA true 2 z.1 z.2) z.2 λA=>eR j false (aI c pV [I.1,A.1] A.2) A.2 λe=>(bN j (B true) e.1).bind λT=>aL T (some ((B true),e.2)) ((aA true 4 b e.2).bind λl=>(aB 0 d).bind λU=>(aA true 2 U e.2).bind λn=>(aI c uW [l,n] e.2).bind λo=>(aA true 4 b o.2).bind λV=>(aB 2 d).bind λJ=>(aA true 2 J o.2).bind λW=>(aI c uW [V,W] o.2).bind λC=>(eC o.1 C.1).bind λa=>aJ a true (aA true 4 d C.2) C.2 λk=>aJ a true (aB 0 b) k.2 λD=>aJ a true (aA true 2 D.1 D.2) D.2 λg=>eR a true (aI c uW [k.1,g.1] g.2) g.2 λE=>aJ a true (aA true 4 d E.2) E.2 λK=>aJ a true (aB 2 b) K.2 λp=>aJ a true (aA true 2 p.1 p.2) p.2 λF=>eR a true (aI c uW [K.1,F.1] F.2) F.2 λL=>aJ a true (eC E.1 L.1) L.2 λM=>(bN a M.1 (B false)).bind λX=>bif(Nat.ble 1 (cB 0 [l,n])&&(Nat.ble 1 (cB 0 [k.1,g.1])&&true))&&(cV (some e.2.next) (tR b) (cB 0 [l,n])&&(cV (some e.2.next) (tR J) (cB 0 [l,n])&&(cV (some e.2.next) (tR d) (cB 0 [k.1,g.1])&&(cV (some e.2.next) (tR p.1) (cB 0 [k.1,g.1])&&true))))then some (X,M.2)else none)
def M':iM:=λc h u m q=>some ((I 0),m)
def J'(c:aK)(h:FHs)(u:Nat)(r:dK):dK:=λb d a m q=>(bU a d).bind λf=>aL f ((aT 1 b a).bind λg=>(aA false 1 g m).bind λe=>(eC e (I 0)).bind λi=>aL i (some (e,m)) ((bI a (I 1)).bind λj=>r b d j m (q+8))) (M' c h u m (q+1))
def HJ(c:aK)(h:FHs)(u:Nat):Nat->dK
 |0=>λ_ _ _ _ _=>none
 |n+1=>J' c h u (HJ c h u n)
def I':cI:=λc h u a m q=>(aN prog BJ a).bind λb=>HJ c h u NN a b (I 0) m (q+3)
def XD:cI:=λc h u a m q=>I' c h u a m (q+1)
def H':cI:=λc h u a m q=>some (a,m)
def AU(c:aK)(h:FHs)(u:Nat)(r:dE):dE:=λa b d e f m q=>(bI f (I 1)).bind λg=>r a b d e g m (q+2)
def IQ(c:aK)(h:FHs)(u:Nat)(r:dE):gY:=λa d i j e f g m q=>(aA true 4 i m).bind λk=>(aA true 2 a m).bind λl=>(aI c uW [k,l] m).bind λb=>(dY b.1 j).bind λn=>aL n ((dL d).bind λo=>AU c h u r a o e f g b.2 (q+8)) (AU c h u r a d e f g b.2 (q+5))
def D'(c:aK)(h:FHs)(u:Nat)(r:dE):gY:=λb d a i e f g m q=>(aB 2 a).bind λj=>(oI 2 1 j (I 1)).bind λk=>(aA false 1 k m).bind λl=>(aB 0 a).bind λn=>(oI 2 1 n (I 1)).bind λo=>(aA false 1 o m).bind λp=>(bU l p).bind λs=>aL s (IQ c h u r b d a (I (-1)) e f g m (q+8)) (IQ c h u r b d a i e f g m (q+7))
def C'(c:aK)(h:FHs)(u:Nat)(r:dE):eB:=λa b d e f g m q=>D' c h u r a b d (I 1) e f g m (q+1)
def B'(c:aK)(h:FHs)(u:Nat)(r:dE):dE:=λa b d e f m q=>AU c h u r a b d e f m q
def y'(c:aK)(h:FHs)(u:Nat)(r:dE):gY:=λa b g d e f i m q=>aL i (C' c h u r a b g d e f m q) (B' c h u r a b d e f m q)
def n'(c:aK)(h:FHs)(u:Nat)(r:dE):dE:=λd i f j g m q=>(aT 4 f g).bind λk=>(aA true 4 k m).bind λl=>dH sD (u,q+2,7) m λb n=>aZ 4 b l n λe=>(aA true 4 b e).bind λo=>(aA true 2 d e).bind λp=>(aI c pV [o,p] e).bind λa=>aL a.1 (some ((B true),a.2)) ((aB 0 b).bind λs=>(oI 2 1 s (I 1)).bind λt=>(aA false 1 t a.2).bind λv=>(oI 2 1 d (I 1)).bind λw=>(aA false 1 w a.2).bind λx=>(eQ v x).bind λy=>(aB 2 b).bind λz=>(oI 2 1 z (I 1)).bind λA=>(aA false 1 A a.2).bind λC=>(oI 2 1 d (I 1)).bind λD=>(aA false 1 D a.2).bind λE=>(eQ C E).bind λF=>(cO prog .neq vQ (.tmp 23) (.tmp 29) y F).bind λG=>y' c h u r d i b f j g G a.2 (q+20))
def XC(c:aK)(h:FHs)(u:Nat)(r:dE):dE:=λe a f b d m q=>(bU d b).bind λg=>aL g (n' c h u r e a f b d m (q+1)) (H' c h u a m (q+1))
def xL(c:aK)(h:FHs)(u:Nat):Nat->dE
 |0=>λ_ _ _ _ _ _ _=>none
 |n+1=>XC c h u (xL c h u n)
def j':gB:=λc h u a b d m q=>(aN prog n9 a).bind λe=>xL c h u NN b d a e (I 0) m (q+3)
def IR:bR:=λc h u a b m q=>cD b (u,q,3) m λd e=>j' c h u a d (B false) e (q+3)
def xlp:iM:=λc h u m q=>some ((I (-1)),m)
def xlo(c:aK)(h:FHs)(u:Nat)(r:bZ):bZ:=λd e f a m q=>(bU a f).bind λg=>aL g ((aT 4 d a).bind λi=>(aA true 4 i m).bind λj=>(fI c h 2 e [j] m).bind λb=>aL b.1 (some (a,b.2)) ((bI a (I 1)).bind λk=>r d e f k b.2 (q+11))) (xlp c h u m (q+1))
def NY(c:aK)(h:FHs)(u:Nat):Nat->bZ
 |0=>λ_ _ _ _ _ _=>none
 |n+1=>xlo c h u (NY c h u n)
def wp:bR:=λc h u a b m q=>(aN prog qP a).bind λd=>NY c h u NN a b d (I 0) m (q+3)
def RV:bR:=λc h u a b m q=>wp c h u a b m (q+1)
def VR:bR:=λc h u b d m q=>cD b (u,q,2) m λe a=>(aB 0 e).bind λf=>(aA false 1 f a).bind λg=>(aA false 1 d a).bind λi=>(cO prog .eql cF (.tmp 5) (.tmp 6) g i).bind λj=>some (j,a)
def PH:bR:=λc h u b d m q=>(aI c C5 [b,d] m).bind λa=>some (a.1,a.2)
def WU:bR:=λc h u b d m q=>(aI c yS [b,d] m).bind λa=>some (a.1,a.2)
def xlz:iM:=λc h u m q=>some ((I (-1)),m)
def zy(c:aK)(h:FHs)(u:Nat)(r:oD):oD:=λe i j Q w f x R m q=>(bI f (I 1)).bind λS=>(kK prog cF e S).bind λT=>(cO prog .eql gQ (.tmp 81) (.tmp 82) T w).bind λa=>bD a true e m λy=>bD a true f y.2 λz=>bD a true f z.2 λA=>bD a true j A.2 λC=>aJ a true (bI A.1 C.1) C.2 λD=>aJ a true (eP prog cF y.1 (some z.1) (some D.1)) D.2 λE=>bD a true i E.2 λF=>aJ a true (cO prog .eql cF (.tmp 90) (.tmp 91) E.1 F.1) F.2 λk=>(bN a k.1 (B false)).bind λU=>aL U (some (f,k.2)) ((bI f (I 1)).bind λb=>(bI R (I 1)).bind λs=>(aA false 1 (AV.sc (.pointer (some ⟨0,0,none⟩))) k.2).bind λV=>(iT j V).bind λg=>bD g true s k.2 λG=>bD g true b G.2 λt=>eR g true (aI c xz9 [t.1] t.2) t.2 λH=>aJ g true (eQ G.1 H.1) H.2 λl=>(bN g l.1 (B false)).bind λW=>aL W ((eP prog cF e (some b) none).bind λX=>(aI c xfe [X,i] l.2).bind λn=>(kL n.1 (I 0)).bind λY=>aL Y ((bI n.1 b).bind λZ=>some (Z,n.2)) (some ((I (-1)),n.2))) ((aA false 1 (AV.sc (.pointer (some ⟨0,0,none⟩))) l.2).bind λaa=>(eQ j aa).bind λd=>bD d true s l.2 λJ=>bD d true b J.2 λK=>aJ d true (cO prog .shr eE (.tmp 123) (.const (.int .u64 4)) K.1 (AV.sc (.int .u64 4))) K.2 λL=>aJ d true (bI (I 4) L.1) L.2 λM=>aJ d true (kL J.1 M.1) M.2 λN=>(bN d N.1 (B false)).bind λo=>bD o true b N.2 λO=>bD o true x O.2 λP=>aJ o true (bU O.1 P.1) P.2 λv=>(bN o v.1 (B false)).bind λab=>aL ab ((eP prog cF e (some b) none).bind λac=>(aI c xz8 [ac,i] v.2).bind λp=>(bU p.1 (I 0)).bind λad=>aL ad (some ((I (-1)),p.2)) ((bI b p.1).bind λae=>some (ae,p.2))) (r e i j Q w b x s v.2 (q+46))))
def xly(c:aK)(h:FHs)(u:Nat)(r:oD):oD:=λa g i b j d f k m q=>(kK prog cF a d).bind λl=>(cO prog .neq gQ (.tmp 62) (.tmp 63) l b).bind λn=>aL n ((bI d (I 1)).bind λo=>(eP prog cF a (some o) (some f)).bind λp=>(aI c T2 [p,b] m).bind λe=>(bU e.1 (I 0)).bind λs=>aL s (some ((I (-1)),e.2)) ((bI e.1 (I 1)).bind λt=>(bI d t).bind λv=>zy c h u r a g i b j v f k e.2 (q+20))) (zy c h u r a g i b j d f k m (q+5))
def xlx(c:aK)(h:FHs)(u:Nat)(r:oD):oD:=λd e f g i a b j m q=>(bU a b).bind λk=>aL k (xly c h u r d e f g i a b j m (q+3)) (xlz c h u m (q+3))
def jt(c:aK)(h:FHs)(u:Nat):Nat->oD
 |0=>λ_ _ _ _ _ _ _ _ _ _=>none
 |n+1=>xlx c h u (jt c h u n)
def IN:bR:=λc h u a b m q=>(fL b).bind λd=>(dY d (I 0)).bind λf=>bD f false b m λj=>bD f false a j.2 λk=>aJ f false (cO prog .eql cF (.tmp 20) (.tmp 21) j.1 k.1) k.2 λe=>(bN f (B true) e.1).bind λr=>aL r (some ((I 0),e.2)) ((dY d (I 1)).bind λs=>aL s ((kK prog cF b (I 0)).bind λt=>(aI c T2 [a,t] e.2).bind λl=>some (l.1,l.2)) ((fL a).bind λv=>(kL d v).bind λw=>aL w (some ((I (-1)),e.2)) ((aA false 1 (AV.sc (.pointer (some ⟨0,0,none⟩))) e.2).bind λx=>(iT d x).bind λg=>bD g true a e.2 λn=>aJ g true (fL n.1) n.2 λo=>aJ g true (iT o.1 (I 64)) o.2 λi=>(bN g i.1 (B false)).bind λy=>aL y ((aI c xfe [a,b] i.2).bind λp=>some (p.1,p.2)) ((kK prog cF b (I 0)).bind λz=>(kK prog cF b (I 1)).bind λA=>(fL a).bind λC=>(eM C d).bind λD=>(bI D (I 1)).bind λE=>jt c h u NN a b d z A (I 0) E (I 0) i.2 (q+43)))))
def VE:cI:=λc h u d m q=>(aT 1 d (I 0)).bind λe=>(aA false 1 e m).bind λf=>(cW qN [(0,1,f)]).bind λg=>(cW BB [(0,3,g)]).bind λi=>dH BB (u,q+7,4) m λa j=>aZ 3 a i j λk=>(eP prog gR d (some (I 1)) none).bind λl=>(aB 0 a).bind λn=>(aB 1 n).bind λo=>(aB 0 a).bind λp=>(aB 2 p).bind λr=>dC l4 [(0,1,o),(1,1,r)] 2 1 (u,q+15,17) k λs t=>(c h rP [l,s] t).bind λb=>(aA true 3 a b.2).bind λv=>(oH prog JF v).bind λw=>some (AV.tup [w,b.1],b.2)
def yc:iM:=λc h u m q=>some ((B true),m)
def UT(c:aK)(h:FHs)(u:Nat)(r:bZ):bZ:=λd e f a m q=>(bU a f).bind λg=>aL g ((aT 1 e a).bind λi=>(aA false 1 i m).bind λj=>(aT 1 d a).bind λk=>(aA false 1 k m).bind λl=>(aI c yP [l] m).bind λb=>(dB b.1 0).bind λn=>(dB b.1 1).bind λo=>(dL o).bind λp=>aL p (some ((B false),b.2)) ((cA j).bind λs=>aZ 1 s n b.2 λt=>(bI a (I 1)).bind λv=>r d e f v t (q+24))) (yc c h u m (q+1))
def AC(c:aK)(h:FHs)(u:Nat):Nat->bZ
 |0=>λ_ _ _ _ _ _=>none
 |n+1=>UT c h u (AC c h u n)
def yb:bR:=λc h u b a m q=>(aN prog xa3 a).bind λd=>AC c h u NN b a d (I 0) m (q+3)
def US:bR:=λc h u a b m q=>yb c h u a b m (q+1)
def VD:cI:=λc h u a m q=>(aT 1 a (I 0)).bind λe=>(aA false 1 e m).bind λi=>(aT 1 a (I 1)).bind λf=>(aA false 1 f m).bind λj=>(aT 1 a (I 2)).bind λg=>(aA false 1 g m).bind λk=>(cW BC [(0,1,i),(1,1,j),(2,1,k)]).bind λl=>dH BC (u,q+12,4) m λb n=>aZ 4 b l n λo=>bif(aY (tR e) (some [],some [(u,q+12,4)])&&(aY (tR f) (some [],some [(u,q+12,4)])&&(aY (tR g) (some [],some [(u,q+12,4)])&&true)))then (eP prog gR a (some (I 3)) none).bind λp=>(aB 3 b).bind λr=>dC l4 [(0,1,r)] 1 1 (u,q+17,19) o λs t=>(c h rP [p,s] t).bind λd=>(aA true 4 b d.2).bind λv=>(oH prog JG v).bind λw=>some (AV.tup [w,d.1],d.2)else none
def VC:cI:=λc h u d m q=>(aT 1 d (I 0)).bind λe=>(aA false 1 e m).bind λf=>(cW BE [(0,1,f)]).bind λg=>dH BE (u,q+6,4) m λa i=>aZ 2 a g i λj=>(eP prog gR d (some (I 1)) none).bind λk=>(aB 1 a).bind λl=>dC l4 [(0,1,l)] 1 1 (u,q+11,13) j λn o=>(c h rP [k,n] o).bind λb=>(aA true 2 a b.2).bind λp=>(oH prog JI p).bind λr=>some (AV.tup [r,b.1],b.2)
def VB:cI:=λc h u b m q=>(aT 1 b (I 0)).bind λe=>(aA false 1 e m).bind λg=>(aT 1 b (I 1)).bind λf=>(aA false 1 f m).bind λi=>(cW BD [(0,1,g),(1,1,i)]).bind λj=>dH BD (u,q+9,4) m λa k=>aZ 4 a j k λl=>bif(aY (tR e) (some [],some [(u,q+9,4)])&&(aY (tR f) (some [],some [(u,q+9,4)])&&true))then (eP prog gR b (some (I 2)) none).bind λn=>(aB 2 a).bind λo=>(aB 3 a).bind λp=>dC l4 [(0,1,o),(1,1,p)] 2 1 (u,q+15,17) l λr s=>(c h rP [n,r] s).bind λd=>(aA true 4 a d.2).bind λt=>(oH prog JH t).bind λv=>some (AV.tup [v,d.1],d.2)else none
def VA:cI:=λc h u a m q=>(aT 1 a (I 0)).bind λb=>(aA false 1 b m).bind λd=>(oH prog YK d).bind λe=>some (AV.tup [e,(B true)],m)
def UZ:cI:=λc h u a m q=>(aT 1 a (I 0)).bind λb=>(aA false 1 b m).bind λd=>(oH prog YL d).bind λe=>some (AV.tup [e,(B true)],m)
def UK:cI:=λc h u d m q=>(aI c O1 [d] m).bind λe=>(dB e.1 0).bind λi=>(dB e.1 1).bind λr=>(cO prog .eql YN (.tmp 12) (.const .nilIface) r (AV.sc .nilIface)).bind λa=>bD a true i e.2 λf=>eR a true (aI c DH [f.1] f.2) f.2 λj=>bD a true d j.2 λk=>aJ a true (cO prog .eql cF (.tmp 16) (.tmp 17) j.1 k.1) k.2 λl=>(bN a l.1 (B false)).bind λb=>bD b true d l.2 λg=>eR b true (aI c DF [g.1,(AV.sc (.string ⟨#[45]⟩))] g.2) g.2 λn=>aJ b true (fL n.1) n.2 λo=>aJ b true (iT o.1 (I 9)) o.2 λp=>(bN b p.1 (B false)).bind λs=>some (AV.tup [i,s],p.2)
def PJ:bR:=λc h u b d m q=>(aI c C6 [b,d] m).bind λa=>some (a.1,a.2)
def SL:cI:=λc h u a m q=>(cO prog .eql gR (.tmp 3) (.const (.slice none 0 0)) a nilS).bind λd=>aL d (some (nilS,m)) (dC lW [] 0 1 (u,q+3,5) m λe b=>cX 1 16 (u,q+5,7) (elems b.get 1 a) e b λf g=>some (f,g))
def PG:bR:=λc h u b d m q=>(aI c DE [b,d,(I 0),(I (-1))] m).bind λa=>some (a.1,a.2)
def SF:bR:=λc h u b d m q=>(aI c DR [b,d] m).bind λa=>(kL a.1 (I 0)).bind λe=>some (e,a.2)
def TP:gB:=λc h u O P Q m q=>cD O (u,q,3) m λd R=>cD P (u,q+1,4) R λe S=>cD Q (u,q+2,5) S λg f=>(aA true 3 d f).bind λT=>(aA true 3 e f).bind λU=>(aA true 3 g f).bind λV=>(aI c EK [T,U,V] f).bind λx=>(dY x.1 (I 0)).bind λa=>aJ a true (aB 0 g) x.2 λi=>aJ a true (aA false 1 i.1 i.2) i.2 λy=>aJ a true (aB 0 d) y.2 λj=>aJ a true (aA false 1 j.1 j.2) j.2 λz=>aJ a true (aB 0 e) z.2 λk=>aJ a true (aA false 1 k.1 k.2) k.2 λA=>aJ a true (vV z.1 A.1) A.2 λC=>aJ a true (aB 0 d) C.2 λl=>aJ a true (aA false 1 l.1 l.2) l.2 λD=>aJ a true (aB 0 e) D.2 λn=>aJ a true (aA false 1 n.1 n.2) n.2 λE=>aJ a true (yB D.1 E.1) E.2 λo=>eR a true (aI c rR [y.1,C.1,o.1] o.2) o.2 λF=>(bN a F.1 (B false)).bind λb=>aJ b true (aB 1 g) F.2 λp=>aJ b true (aA false 1 p.1 p.2) p.2 λG=>aJ b true (aB 1 d) G.2 λr=>aJ b true (aA false 1 r.1 r.2) r.2 λH=>aJ b true (aB 1 e) H.2 λs=>aJ b true (aA false 1 s.1 s.2) s.2 λJ=>aJ b true (vV H.1 J.1) J.2 λK=>aJ b true (aB 1 d) K.2 λt=>aJ b true (aA false 1 t.1 t.2) t.2 λL=>aJ b true (aB 1 e) L.2 λv=>aJ b true (aA false 1 v.1 v.2) v.2 λM=>aJ b true (yB L.1 M.1) M.2 λw=>eR b true (aI c rR [G.1,K.1,w.1] w.2) w.2 λN=>(bN b N.1 (B false)).bind λW=>some (W,N.2)
def TN:gB:=λc h u e f g m q=>cD e (u,q,3) m λi j=>cD f (u,q+1,4) j λk l=>cD g (u,q+2,5) l λn a=>(aA true 3 i a).bind λo=>(aA true 3 k a).bind λp=>(aA true 3 n a).bind λr=>(aI c EK [o,p,r] a).bind λb=>(dY b.1 (I 0)).bind λs=>aL s (some ((I 0),b.2)) ((aI c EH [b.1] b.2).bind λd=>some (d.1,d.2))
def RA:cI:=λc h u p m q=>cD p (u,q,1) m λa j=>(aB 0 a).bind λr=>(aA true 2 r j).bind λs=>(aI c DI [s] j).bind λb=>(eC b.1 (I 0)).bind λt=>aL t (some (b.1,b.2)) ((aB 0 a).bind λv=>(aB 1 v).bind λw=>(aA false 1 w b.2).bind λx=>(aN prog o0 x).bind λk=>(aB 2 a).bind λy=>(aA false 1 y b.2).bind λz=>(aN prog fG z).bind λA=>(eC A k).bind λd=>aJ d false (aB 3 a) b.2 λg=>aJ d false (aA false 1 g.1 g.2) g.2 λl=>aJ d false (aN prog fG l.1) l.2 λn=>bD d false k n.2 λo=>aJ d false (eC n.1 o.1) o.2 λe=>(bN d (B true) e.1).bind λC=>aL C (some ((I 10),e.2)) ((aB 2 a).bind λD=>(aA false 1 D e.2).bind λE=>(aI c B6 [E,(AV.clo P5 [])] e.2).bind λf=>aL f.1 (some ((I 2),f.2)) ((aB 3 a).bind λF=>(aA false 1 F f.2).bind λG=>(aI c B6 [G,(AV.clo P4 [])] f.2).bind λi=>aL i.1 (some ((I 2),i.2)) (some ((I 0),i.2)))))
def PN:gB:=λc h u b g i m q=>(iT g b).bind λa=>bD a true b m λd=>bD a true i d.2 λe=>aJ a true (iT d.1 e.1) e.2 λf=>(bN a f.1 (B false)).bind λj=>some (j,f.2)
def ut:cI:=λc h u a m q=>some (a,m)
def QF(c:aK)(h:FHs)(u:Nat)(r:eB):eB:=λf d g i j b m q=>(bU b j).bind λl=>aL l ((aT 2 i b).bind λn=>(aA true 2 n m).bind λo=>dH xP (u,q+4,8) m λe p=>aZ 2 e o p λa=>(aT 1 f b).bind λs=>(aA false 1 s a).bind λt=>(aB 1 e).bind λv=>(aA false 1 v a).bind λw=>(aT 1 d w).bind λx=>(aA false 1 x a).bind λy=>(eM t y).bind λz=>(aB 0 e).bind λA=>(aA false 1 A a).bind λB=>(aT 1 d B).bind λC=>(aA false 1 C a).bind λD=>(bI z D).bind λE=>dC iN [(0,1,E)] 1 1 (u,q+24,38) a λF k=>cX 1 8 (u,q+25,39) (elems k.get 1 F) g k λG H=>(bI b (I 1)).bind λJ=>r f d G i j J H (q+29)) (ut c h u g m (q+1))
def Y4(c:aK)(h:FHs)(u:Nat):Nat->eB
 |0=>λ_ _ _ _ _ _ _ _=>none
 |n+1=>QF c h u (Y4 c h u n)
def ur:nA:=λc h u b d e f m q=>(aB 0 d).bind λg=>(aB 1 g).bind λi=>(aA false 1 i m).bind λa=>(aN prog o0 a).bind λj=>Y4 c h u NN b e f a j (I 0) m (q+5)
def QE:bR:=λc h u f a m q=>cD f (u,q,2) m λb d=>(aA true 2 b d).bind λg=>(aI c B1 [g,a] d).bind λe=>ur c h u a b e.1 nilS e.2 (q+7)
def uq:cI:=λc h u a m q=>(aA false 1 a m).bind λb=>some (b,m)
def HO(c:aK)(h:FHs)(u:Nat)(r:dE):dE:=λa b d e f m q=>(bI f (I 1)).bind λg=>r a b d e g m (q+2)
def uk(c:aK)(h:FHs)(u:Nat)(r:dE):dE:=λe b d f a m q=>(aA false 1 b m).bind λg=>(aT 1 g a).bind λi=>(aA false 1 i m).bind λj=>(dL j).bind λk=>aL k ((aA false 1 d m).bind λl=>(fI c h 2 l [a] m).bind λn=>HO c h u r e b d f a n.2 (q+10)) (HO c h u r e b d f a m (q+7))
def QB(c:aK)(h:FHs)(u:Nat)(r:dE):dE:=λa e f b d m q=>(bU d b).bind λg=>aL g (uk c h u r a e f b d m (q+1)) (uq c h u a m (q+1))
def Y3(c:aK)(h:FHs)(u:Nat):Nat->dE
 |0=>λ_ _ _ _ _ _ _=>none
 |n+1=>QB c h u (Y3 c h u n)
def uj:gB:=λc h u a b d m q=>(aA false 1 a m).bind λe=>(aN prog fG e).bind λf=>Y3 c h u NN a b d f (I 0) m (q+3)
def QA:bR:=λc h u r s m q=>cD r (u,q,2) m λd t=>cD s (u,q+1,3) t λv i=>(aB 0 d).bind λw=>(aB 0 w).bind λe=>(aA false 1 e i).bind λx=>(aN prog lX x).bind λj=>sJ iN 1 8 j j (u,q+7,14) i λy k=>(aB 0 d).bind λz=>(aB 0 z).bind λa=>(aA false 1 a k).bind λA=>(aN prog lX A).bind λl=>sJ JC 1 1 l l (u,q+12,19) k λB C=>dH YC (u,q+13,5) C λb D=>dH xau (u,q+14,6) D λf E=>aZ 1 b y E λF=>aZ 1 f B F λn=>bif(aY (some [],some [(u,q+7,14)]) (tR a)&&(aY (tR e) (some [],some [(u,q+12,19)])&&(aY (some [],some [(u,q+7,14)]) (some [],some [(u,q+12,19)])&&(aY (tR e) (some [],some [(u,q+13,5)])&&(aY (some [],some [(u,q+7,14)]) (some [],some [(u,q+13,5)])&&(aY (tR a) (some [],some [(u,q+13,5)])&&(aY (some [],some [(u,q+12,19)]) (some [],some [(u,q+13,5)])&&(aY (tR e) (some [],some [(u,q+14,6)])&&(aY (some [],some [(u,q+7,14)]) (some [],some [(u,q+14,6)])&&(aY (tR a) (some [],some [(u,q+14,6)])&&(aY (some [],some [(u,q+12,19)]) (some [],some [(u,q+14,6)])&&(aY (some [],some [(u,q+13,5)]) (some [],some [(u,q+14,6)])&&(aY (tR a) (tS b)&&(aY (some [],some [(u,q+12,19)]) (tS b)&&true))))))))))))))then (aA true 2 d n).bind λG=>(aI c P0 [G] n).bind λo=>dH YC (u,q+19,7) o.2 λp H=>aZ 1 p o.1 H λI=>dH YF (u,q+21,8) I λg J=>aZ 1 g (AV.clo wD [f,d,p,b,v,g]) J λK=>uj c h u b f g K (q+24)else none
def vd:cI:=λc h u a m q=>some (a,m)
def HR(c:aK)(h:FHs)(u:Nat)(r:dE):dE:=λa b d e f m q=>(bI f (I 1)).bind λg=>r a b d e g m (q+2)
def vc(c:aK)(h:FHs)(u:Nat)(r:dE):dE:=λb d e g a m q=>(aT 2 e a).bind λj=>(aA true 2 j m).bind λk=>dH xP (u,q+3,7) m λi l=>aZ 2 i k l λf=>(eC a b).bind λn=>aL n ((aA true 2 i f).bind λo=>(c h O4 [d,o] f).bind λp=>HR c h u r b d e g a p.2 (q+12)) (HR c h u r b d e g a f (q+9))
def QM(c:aK)(h:FHs)(u:Nat)(r:dE):dE:=λe a f b d m q=>(bU d b).bind λg=>aL g (vc c h u r e a f b d m (q+1)) (vd c h u a m (q+1))
def Y7(c:aK)(h:FHs)(u:Nat):Nat->dE
 |0=>λ_ _ _ _ _ _ _=>none
 |n+1=>QM c h u (Y7 c h u n)
def uz:gB:=λc h u b d e m q=>(aB 0 d).bind λf=>(aB 1 f).bind λg=>(aA false 1 g m).bind λa=>(aN prog o0 a).bind λi=>Y7 c h u NN b e a i (I 0) m (q+5)
def QL:bR:=λc h u e f m q=>cD e (u,q,2) m λa b=>(aB 0 a).bind λg=>(aB 0 g).bind λi=>(aA false 1 i b).bind λj=>(aN prog lX j).bind λk=>(y5 c B0 [k] b).bind λd=>uz c h u f a d.1 d.2 (q+8)
def SW:bR:=λc h u d a m q=>(pO a).bind λe=>(aI c wE [d,e,a] m).bind λb=>some (b.1,b.2)
def O':iM:=λc h u m q=>some ((B true),m)
def XG(c:aK)(h:FHs)(u:Nat)(r:dE):dE:=λd e f g a m q=>(bU a g).bind λi=>aL i ((aT 1 f a).bind λj=>(aA false 1 j m).bind λk=>(aI c FD [k,d,e] m).bind λb=>(dL b.1).bind λl=>aL l (some ((B false),b.2)) ((bI a (I 1)).bind λn=>r d e f g n b.2 (q+11))) (O' c h u m (q+1))
def AN(c:aK)(h:FHs)(u:Nat):Nat->dE
 |0=>λ_ _ _ _ _ _ _=>none
 |n+1=>XG c h u (AN c h u n)
def N':gB:=λc h u b d a m q=>(aN prog fG a).bind λe=>AN c h u NN b d a e (I 0) m (q+3)
def XF:gB:=λc h u a b d m q=>N' c h u a b d m (q+1)
def WZ:bR:=λc h u l n m q=>cD l (u,q,2) m λg o=>cD n (u,q+1,3) o λi a=>(aB 2 g).bind λp=>(aA true 2 p a).bind λd=>(aB 0 g).bind λr=>(aA true 2 r a).bind λe=>(aI c FH [d,e] a).bind λf=>(aA true 2 i f.2).bind λs=>(aB 0 g).bind λj=>(aA true 2 j f.2).bind λt=>(aI c FH [s,t] f.2).bind λk=>(aI c xfg [f.1,k.1] k.2).bind λb=>bif(Nat.ble 1 (cB 0 [d,e])&&true)&&(cV (some a.next) (tR i) (cB 0 [d,e])&&(cV (some a.next) (tR j) (cB 0 [d,e])&&true))then (eQ b.1 (I 0)).bind λv=>aL v (some ((I 1),b.2)) ((bU b.1 (I 0)).bind λw=>aL w (some ((I (-1)),b.2)) (some ((I 0),b.2)))else none
def PF:bR:=λc h u b d m q=>(aI c FA [b,d] m).bind λa=>some (a.1,a.2)
def IP:bR:=λc h u d b m q=>(fL d).bind λl=>(fL b).bind λn=>(kL l n).bind λa=>bD a true d m λe=>bD a true b e.2 λf=>aJ a true (fL f.1) f.2 λg=>aJ a true (eP prog cF e.1 none (some g.1)) g.2 λi=>bD a true b i.2 λj=>aJ a true (cO prog .eql cF (.tmp 14) (.tmp 15) i.1 j.1) j.2 λk=>(bN a k.1 (B false)).bind λo=>some (o,k.2)
def J5:gB:=λc h u d a b m q=>(aT 1 a b).bind λe=>aZ 1 e d m λf=>(bI b (I 1)).bind λg=>(eP prog gR a none (some g)).bind λi=>some (i,f)
def tw(c:aK)(h:FHs)(u:Nat)(r:eB):eB:=λa f g i e b m q=>(bU b i).bind λj=>aL j ((aI c A9 [a,f] m).bind λd=>(bU d.1 (I 0)).bind λk=>aL k (J5 c h u a e b d.2 (q+9)) ((bI d.1 g).bind λl=>(eP prog cF a none (some l)).bind λn=>(aT 1 e b).bind λo=>aZ 1 o n d.2 λp=>(fL f).bind λs=>(bI d.1 s).bind λt=>(eP prog cF a (some t) none).bind λv=>(bI b (I 1)).bind λw=>r v f g i e w p (q+28))) (J5 c h u a e b m (q+3))
def Y0(c:aK)(h:FHs)(u:Nat):Nat->eB
 |0=>λ_ _ _ _ _ _ _ _=>none
 |n+1=>tw c h u (Y0 c h u n)
def PE:nA:=λc h u b d e f m q=>(fL b).bind λg=>(bI g (I 1)).bind λi=>(vV f i).bind λa=>sJ lW 1 16 a a (u,q+7,31) m λj k=>(eM a (I 1)).bind λl=>Y0 c h u NN b d e l j (I 0) k (q+13)
def tn:nA:=λc h u a b d e m q=>(bU e (I 0)).bind λg=>aL g ((aI c DG [a,b] m).bind λf=>(bI f.1 (I 1)).bind λi=>PE c h u a b d i f.2 (q+7)) (PE c h u a b d e m (q+2))
def PD:nA:=λc h u b d f a m q=>(dY a (I 0)).bind λg=>aL g (some (nilS,m)) ((cO prog .eql cF (.tmp 14) (.const (.string ⟨#[]⟩)) d (AV.sc (.string ⟨#[]⟩))).bind λi=>aL i ((aI c xzz [b,a] m).bind λe=>some (e.1,e.2)) (tn c h u b d f a m (q+5)))
def wj:iM:=λc h u m q=>some ((I (-1)),m)
def RO(c:aK)(h:FHs)(u:Nat)(r:bZ):bZ:=λb d e a m q=>(bU a e).bind λf=>aL f ((aT 1 b a).bind λg=>(aA false 1 g m).bind λi=>(cO prog .eql cF (.tmp 11) (.tmp 15) d i).bind λj=>aL j (some (a,m)) ((bI a (I 1)).bind λk=>r b d e k m (q+11))) (wj c h u m (q+1))
def H8(c:aK)(h:FHs)(u:Nat):Nat->bZ
 |0=>λ_ _ _ _ _ _=>none
 |n+1=>RO c h u (H8 c h u n)
def wh:bR:=λc h u a b m q=>(aN prog gR a).bind λd=>H8 c h u NN a b d (I 0) m (q+3)
def RN:bR:=λc h u a b m q=>wh c h u a b m (q+1)
def TO:cI:=λc h u a m q=>(bU a (I 0)).bind λb=>aL b (some ((I (-1)),m)) (some ((I 1),m))
def PV:cI:=λc h u d m q=>cD d (u,q,1) m λe b=>(aA true 2 e b).bind λf=>(aI c DO [f] b).bind λa=>(dB a.1 0).bind λi=>(dB a.1 1).bind λg=>some (g,a.2)
def SH:bR:=λc h u b d m q=>(c h B3 [b,d] m).bind λa=>(kL a.1 (I 0)).bind λe=>some (e,a.2)
def QZ:cI:=λc h u b m q=>(aI c O5 [b,(I 100000000)] m).bind λa=>(dL a.1).bind λd=>some (d,a.2)
def PR:bR:=λc h u d a m q=>(pO a).bind λe=>(aI c uT [d,e,a] m).bind λb=>some (b.1,b.2)
def QY:cI:=λc h u b m q=>(aI c uT [b,(I 0),(I 1000)] m).bind λa=>(dL a.1).bind λd=>some (d,a.2)
def uy:cI:=λc h u a m q=>(c h B2 [a] m).bind λb=>some (a,b.2)
def HQ(c:aK)(h:FHs)(u:Nat)(r:eB):eB:=λa b d e f g m q=>(bI g (I 1)).bind λi=>r a b d e f i m (q+2)
def ux(c:aK)(h:FHs)(u:Nat)(r:eB):eB:=λa g b d i e m q=>(aT 1 d e).bind λl=>(aA false 1 l m).bind λj=>(aB 0 a).bind λn=>(aB 1 n).bind λo=>(aA false 1 o m).bind λp=>(aT 2 p j).bind λs=>(aA true 2 s m).bind λt=>(c h O4 [b,t] m).bind λf=>aL f.1 (dC iN [(0,1,j)] 1 1 (u,q+13,45) f.2 λv k=>cX 1 8 (u,q+14,46) (elems k.get 1 v) g k λw x=>HQ c h u r a w b d i e x (q+16)) (HQ c h u r a g b d i e f.2 (q+11))
def QI(c:aK)(h:FHs)(u:Nat)(r:eB):eB:=λe a f g b d m q=>(bU d b).bind λi=>aL i (ux c h u r e a f g b d m (q+1)) (uy c h u a m (q+1))
def Y6(c:aK)(h:FHs)(u:Nat):Nat->eB
 |0=>λ_ _ _ _ _ _ _ _=>none
 |n+1=>QI c h u (Y6 c h u n)
def uw:nA:=λc h u b a d e m q=>(aN prog fG a).bind λf=>Y6 c h u NN b d e a f (I 0) m (q+3)
def uv:gB:=λc h u a b f m q=>(c h DQ [b,(AV.clo O9 [a])] m).bind λd=>(aB 0 a).bind λg=>(aB 0 g).bind λi=>(aA false 1 i d.2).bind λj=>(aN prog lX j).bind λk=>(y5 c B0 [k] d.2).bind λe=>uw c h u a b f e.1 e.2 (q+9)
def QH(c:aK)(h:FHs)(u:Nat)(s:dE):dE:=λb d e f a m q=>(bU a f).bind λi=>aL i (dC iN [(0,1,a)] 1 1 (u,q+5,18) m λj g=>cX 1 8 (u,q+6,19) (elems g.get 1 j) d g λk l=>(bI a (I 1)).bind λn=>s b k e f n l (q+10)) (uv c h u b d e m (q+1))
def Y5(c:aK)(h:FHs)(u:Nat):Nat->dE
 |0=>λ_ _ _ _ _ _ _=>none
 |n+1=>QH c h u (Y5 c h u n)
def uu:gB:=λc h u a b d m q=>(aB 0 a).bind λe=>(aB 1 e).bind λf=>(aA false 1 f m).bind λg=>(aN prog o0 g).bind λi=>Y5 c h u NN a b d i (I 0) m (q+5)
def QG:cI:=λc h u a m q=>cD a (u,q,1) m λb d=>uu c h u b nilS nilS d (q+4)
def um:HL:=λc h u f b g i j d a m q=>(aA false 1 f m).bind λk=>(aT 1 k a).bind λl=>(aA false 1 l m).bind λn=>(dL n).bind λo=>aL o ((aA false 1 b m).bind λp=>(aA false 1 b m).bind λr=>(aA false 1 j m).bind λs=>(aT 1 r s).bind λt=>(aA false 1 t m).bind λv=>(aB 1 d).bind λw=>(aA false 1 w m).bind λx=>(aA false 1 g m).bind λy=>(aB 0 d).bind λz=>(aA false 1 z m).bind λA=>(aT 1 y A).bind λB=>(aA false 1 B m).bind λC=>(jP x C).bind λD=>(bI v D).bind λE=>(aT 1 p a).bind λF=>aZ 1 F E m λe=>(aA false 1 i e).bind λG=>(fI c h 2 G [a] e).bind λH=>some H.2) (some m)
def QD:HL:=λc h u b d e f g i j m q=>dH JD (u,q,8) m λa k=>aZ 2 a i k λl=>um c h u b d e f g a j l (q+3)
def ul:OH:=λc h u a b d e f i m q=>rD i λg caps=>(c (((u,q,0),λargs m=>bif Nat.beq args.length 2&&true then QD c h m.next a b d e f (args.getD 0 U) (args.getD 1 U) ⟨m.hp,m.next+1⟩ 0 else none)::h) g (.yld (u,q,0)::caps) m).bind λp=>(some (AV.tup [],p.2))
def QC:xk9:=λc h u g e i j k l n m q=>cD g (u,q,7) m λb d=>(aA false 1 e d).bind λo=>(aA false 1 b d).bind λp=>(aT 1 o p).bind λr=>aZ 1 r (B true) d λa=>(aA true 2 i a).bind λs=>(aA false 1 b a).bind λt=>(aA false 1 j a).bind λv=>(aI c DK [s,t,v] a).bind λf=>ul c h u e k l n b f.1 f.2 (q+9)
def QQ:gB:=λc h u a b d m q=>cD a (u,q,3) m λe f=>cD b (u,q+1,4) f λg i=>cD d (u,q+2,5) i λj k=>some ((AV.clo yL [j,e,g]),k)
def ue:cI:=λc h u a m q=>some (a,m)
def PU(c:aK)(h:FHs)(u:Nat)(r:dK):dK:=λb d a m q=>(bU a d).bind λf=>aL f (dC iN [(0,1,a)] 1 1 (u,q+5,11) m λg e=>cX 1 8 (u,q+6,12) (elems e.get 1 g) b e λi j=>(bI a (I 1)).bind λk=>r i d k j (q+10)) (ue c h u b m (q+1))
def Y2(c:aK)(h:FHs)(u:Nat):Nat->dK
 |0=>λ_ _ _ _ _=>none
 |n+1=>PU c h u (Y2 c h u n)
def ud:bR:=λc h u a b m q=>Y2 c h u NN b a (I 0) m (q+2)
def PT:cI:=λc h u a m q=>ud c h u a nilS m (q+2)
def uc:bR:=λc h u a b m q=>(eC a b).bind λd=>some (d,m)
def PQ(c:aK)(h:FHs)(u:Nat)(r:eB):eB:=λa b d e f g m q=>(bI g (I 1)).bind λi=>r a b d e f i m (q+2)
def ub(c:aK)(h:FHs)(u:Nat)(r:eB):eB:=λf a b g j d m q=>(aT 1 g d).bind λo=>(aA false 1 o m).bind λk=>(dY k a).bind λe=>bD e false k m λl=>bD e false b l.2 λn=>aJ e false (dY l.1 n.1) n.2 λi=>(bN e (B true) i.1).bind λp=>aL p ((vV a b).bind λs=>(aT 1 f d).bind λt=>aZ 1 t s i.2 λv=>PQ c h u r f a b g j d v (q+20)) (PQ c h u r f a b g j d i.2 (q+13))
def PP(c:aK)(h:FHs)(u:Nat)(r:eB):eB:=λf a b g d e m q=>(bU e d).bind λi=>aL i (ub c h u r f a b g d e m (q+1)) (uc c h u a b m (q+1))
def Y1(c:aK)(h:FHs)(u:Nat):Nat->eB
 |0=>λ_ _ _ _ _ _ _ _=>none
 |n+1=>PP c h u (Y1 c h u n)
def tz:gB:=λc h u a b d m q=>(aN prog xa2 a).bind λe=>Y1 c h u NN a b d a e (I 0) m (q+3)
def PO:bR:=λc h u b e m q=>cD e (u,q,3) m λd a=>(aB 0 d).bind λf=>(aA false 1 f a).bind λg=>(aT 1 b g).bind λi=>(aA false 1 i a).bind λj=>(aB 1 d).bind λk=>(aA false 1 k a).bind λl=>(aT 1 b l).bind λn=>(aA false 1 n a).bind λo=>tz c h u b j o a (q+14)
def WW:gB:=λc h u b g i m q=>(iT g b).bind λa=>bD a true b m λd=>bD a true i d.2 λe=>aJ a true (iT d.1 e.1) e.2 λf=>(bN a f.1 (B false)).bind λj=>some (j,f.2)
def zp:bR:=λc h u a b m q=>(oJ prog n8 gQ a).bind λd=>(kK prog cF (AV.sc (.string ⟨#[0,1,2,2,3,3,3,3,4,4,4,4,4,4,4,4,5,5,5,5,5,5,5,5,5,5,5,5,5,5,5,5,6,6,6,6,6,6,6,6,6,6,6,6,6,6,6,6,6,6,6,6,6,6,6,6,6,6,6,6,6,6,6,6,7,7,7,7,7,7,7,7,7,7,7,7,7,7,7,7,7,7,7,7,7,7,7,7,7,7,7,7,7,7,7,7,7,7,7,7,7,7,7,7,7,7,7,7,7,7,7,7,7,7,7,7,7,7,7,7,7,7,7,7,7,7,7,7,8,8,8,8,8,8,8,8,8,8,8,8,8,8,8,8,8,8,8,8,8,8,8,8,8,8,8,8,8,8,8,8,8,8,8,8,8,8,8,8,8,8,8,8,8,8,8,8,8,8,8,8,8,8,8,8,8,8,8,8,8,8,8,8,8,8,8,8,8,8,8,8,8,8,8,8,8,8,8,8,8,8,8,8,8,8,8,8,8,8,8,8,8,8,8,8,8,8,8,8,8,8,8,8,8,8,8,8,8,8,8,8,8,8,8,8,8,8,8,8,8,8,8,8,8,8,8,8]⟩)) d).bind λe=>(oJ prog gQ eE e).bind λf=>(bI b f).bind λg=>some (g,m)
def zo:bR:=λc h u a b m q=>(cO prog .geq n8 (.tmp 13) (.const (.int .u64 256)) a (AV.sc (.int .u64 256))).bind λd=>aL d ((cO prog .shr n8 (.tmp 15) (.const (.int .u64 8)) a (AV.sc (.int .u64 8))).bind λe=>(bI b (I 8)).bind λf=>zp c h u e f m (q+8)) (zp c h u a b m (q+2))
def zn:bR:=λc h u a b m q=>(cO prog .geq n8 (.tmp 7) (.const (.int .u64 65536)) a (AV.sc (.int .u64 65536))).bind λd=>aL d ((cO prog .shr n8 (.tmp 9) (.const (.int .u64 16)) a (AV.sc (.int .u64 16))).bind λe=>(bI b (I 16)).bind λf=>zo c h u e f m (q+8)) (zo c h u a b m (q+2))
def xlw:bR:=λc h u a b m q=>(cO prog .geq n8 (.tmp 3) (.const (.int .u64 4294967296)) a (AV.sc (.int .u64 4294967296))).bind λd=>aL d ((cO prog .shr n8 (.tmp 5) (.const (.int .u64 32)) a (AV.sc (.int .u64 32))).bind λe=>zn c h u e (I 32) m (q+6)) (zn c h u a b m (q+2))
def zm:cI:=λc h u a m q=>xlw c h u a (I 0) m (q+1)
def WT:bR:=λc h u a d m q=>(aI c C6 [a,d] m).bind λb=>aL b.1 ((fL d).bind λe=>(eP prog cF a (some e) none).bind λf=>some (f,b.2)) (some (a,b.2))
def xli(c:aK)(h:FHs)(u:Nat)(r:dK):dK:=λd b e m q=>(aI c A9 [d,b] m).bind λa=>(dY a.1 (I (-1))).bind λf=>aL f (some (e,a.2)) ((bI e (I 1)).bind λg=>(fL b).bind λi=>(bI a.1 i).bind λj=>(eP prog cF d (some j) none).bind λk=>r k b g a.2 (q+16))
def jr(c:aK)(h:FHs)(u:Nat):Nat->dK
 |0=>λ_ _ _ _ _=>none
 |n+1=>xli c h u (jr c h u n)
def PL:bR:=λc h u b a m q=>(fL a).bind λf=>(dY f (I 0)).bind λg=>aL g ((aI c xzy [b] m).bind λd=>(bI d.1 (I 1)).bind λi=>some (i,d.2)) ((fL a).bind λj=>(dY j (I 1)).bind λk=>aL k ((kK prog cF a (I 0)).bind λl=>(aI c yT [b,l] m).bind λe=>some (e.1,e.2)) (jr c h u NN b a (I 0) m (q+8)))
def vp:iM:=λc h u m q=>some (AV.tup [(I 0),(I 0)],m)
def RC(c:aK)(h:FHs)(u:Nat)(r:dE):dE:=λk f l n d m q=>(bU d n).bind λv=>aL v ((aT 2 l d).bind λw=>(aA true 2 w m).bind λx=>dH xP (u,q+4,8) m λb y=>aZ 2 b x y λg=>(aB 0 k).bind λz=>(aA false 1 z g).bind λA=>(aN prog lX A).bind λC=>(eM C (I 1)).bind λo=>(aB 0 b).bind λD=>(aA false 1 D g).bind λE=>(aI c uT [E,(I 0),o] g).bind λp=>(dL p.1).bind λe=>aJ e false (aB 1 b) p.2 λi=>aJ e false (aA false 1 i.1 i.2) i.2 λs=>bD e false o s.2 λj=>eR e false (aI c uT [s.1,(I 0),j.1] j.2) j.2 λt=>aJ e false (dL t.1) t.2 λa=>(bN e (B true) a.1).bind λF=>aL F (some (AV.tup [d,(I 6)],a.2)) ((aB 0 b).bind λG=>(aA false 1 G a.2).bind λH=>(aB 1 b).bind λJ=>(aA false 1 J a.2).bind λK=>(kL H K).bind λL=>aL L (some (AV.tup [d,(I 9)],a.2)) ((aA true 2 b a.2).bind λM=>(yC prog YM f M false a.2).bind λN=>aL N (some (AV.tup [d,(I 28)],a.2)) ((aA true 2 b a.2).bind λO=>uK prog YM f O (B true) a.2 λP=>(bI d (I 1)).bind λQ=>r k f l n Q P (q+40))))) (vp c h u m (q+1))
def H7(c:aK)(h:FHs)(u:Nat):Nat->dE
 |0=>λ_ _ _ _ _ _ _=>none
 |n+1=>RC c h u (H7 c h u n)
def vo:bR:=λc h u a d m q=>(aB 1 a).bind λe=>(aA false 1 e m).bind λb=>(aN prog o0 b).bind λf=>H7 c h u NN a d b f (I 0) m (q+4)
def RB:cI:=λc h u f m q=>cD f (u,q,1) m λb d=>(aB 0 b).bind λg=>(aA false 1 g d).bind λi=>(aI c P3 [i] d).bind λa=>(dB a.1 0).bind λj=>(dB a.1 1).bind λe=>(eC e (I 0)).bind λk=>aL k (some (AV.tup [j,e],a.2)) ((aB 1 b).bind λl=>(aA false 1 l a.2).bind λn=>(aN prog o0 n).bind λo=>(eQ o (I 200)).bind λp=>aL p (some (AV.tup [(I 0),(I 8)],a.2)) (CM (u,q+17,24) a.2 λr s=>vo c h u b r s (q+19)))
def RS:iM:=λc h u m q=>some ((I (-1)),m)
def AR(c:aK)(h:FHs)(u:Nat)(r:bZ):bZ:=λd e f a m q=>(bU a f).bind λg=>aL g ((aT 1 d a).bind λi=>(aA false 1 i m).bind λj=>(fI c h 2 e [j] m).bind λb=>aL b.1 (some (a,b.2)) ((bI a (I 1)).bind λk=>r d e f k b.2 (q+11))) (RS c h u m (q+1))
def vN(c:aK)(h:FHs)(u:Nat):Nat->bZ
 |0=>λ_ _ _ _ _ _=>none
 |n+1=>AR c h u (vN c h u n)
def RR:bR:=λc h u a b m q=>(aN prog fG a).bind λd=>vN c h u NN a b d (I 0) m (q+3)
def HW:bR:=λc h u a b m q=>RR c h u a b m (q+1)
def RM:bR:=λc h u a b m q=>(aN prog fG a).bind λd=>(c h LN [a,d,b] m).bind λe=>(some (AV.tup [],e.2))
def QJ:gB:=λc h u a g b m q=>(aA true 2 b m).bind λd=>(aI c P1 [d,a] m).bind λe=>(aA true 2 b e.2).bind λi=>(aI c P1 [i,g] e.2).bind λf=>(eM e.1 f.1).bind λj=>bif(Nat.ble 1 (cB 0 [d,a])&&true)&&(cV (some m.next) (tR b) (cB 0 [d,a])&&true)then some (j,f.2)else none
def QK:bR:=λc h u x y m q=>cD x (u,q,2) m λk l=>(aB 0 k).bind λz=>(aB 1 z).bind λA=>(aA false 1 A l).bind λB=>(aT 2 B y).bind λC=>(aA true 2 C l).bind λD=>dH xP (u,q+8,5) l λn E=>aZ 2 n D E λa=>(aB 0 k).bind λF=>(aB 0 F).bind λo=>(aA false 1 o a).bind λG=>(aB 0 n).bind λp=>(aA false 1 p a).bind λH=>(aT 3 G H).bind λr=>(aA true 3 r a).bind λI=>(aB 0 k).bind λJ=>(aB 0 J).bind λe=>(aA false 1 e a).bind λK=>(aB 1 n).bind λf=>(aA false 1 f a).bind λL=>(aT 3 K L).bind λg=>(aA true 3 g a).bind λM=>dH qN (u,q+24,6) a λb N=>dH qN (u,q+25,7) N λs O=>aZ 3 b I O λP=>aZ 3 s M P λd=>bif(aY (tR o) (some [],some [(u,q+24,6)])&&(aY (tR p) (some [],some [(u,q+24,6)])&&(aY (tR r) (some [],some [(u,q+24,6)])&&(aY (tR e) (some [],some [(u,q+24,6)])&&(aY (tR f) (some [],some [(u,q+24,6)])&&(aY (tR g) (some [],some [(u,q+24,6)])&&(aY (tR o) (some [],some [(u,q+25,7)])&&(aY (tR p) (some [],some [(u,q+25,7)])&&(aY (tR r) (some [],some [(u,q+25,7)])&&(aY (tR e) (some [],some [(u,q+25,7)])&&(aY (tR f) (some [],some [(u,q+25,7)])&&(aY (tR g) (some [],some [(u,q+25,7)])&&(aY (some [],some [(u,q+24,6)]) (some [],some [(u,q+25,7)])&&(aY (tR e) (tS b)&&(aY (tR f) (tS b)&&(aY (tR g) (tS b)&&true))))))))))))))))then (aB 1 b).bind λQ=>(aA false 1 Q d).bind λR=>(aB 1 s).bind λS=>(aA false 1 S d).bind λT=>(eM R T).bind λi=>(aI c O7 [i] d).bind λj=>(aB 2 b).bind λt=>(aA false 1 t j.2).bind λU=>(aB 2 s).bind λv=>(aA false 1 v j.2).bind λV=>(eM U V).bind λW=>(aI c O7 [W] j.2).bind λw=>(bI j.1 w.1).bind λX=>bif(Nat.ble 1 (cB 0 [i])&&true)&&(cV (some d.next) (tR t) (cB 0 [i])&&(cV (some d.next) (tR v) (cB 0 [i])&&true))then some (X,w.2)else none else none
def RL:cI:=λc h u a m q=>(aN prog fG a).bind λb=>(oJ prog eE YI b).bind λe=>(aI c EY [e] m).bind λd=>(c h P6 [a,(I 0),b,d.1] d.2).bind λf=>(some (AV.tup [],f.2))
def vf(c:aK)(h:FHs)(u:Nat)(r:eB):eB:=λa b d e f g m q=>(bI g (I 1)).bind λi=>r a b d e f i m (q+2)
def QP(c:aK)(h:FHs)(u:Nat)(r:eB)(s:pD):pD:=λd e f o p t v w g m q=>(bU g (I 2)).bind λz=>aL z ((kK prog xU w g).bind λA=>(cW JD [(0,1,o),(1,1,A)]).bind λC=>dH JD (u,q+6,9) m λi D=>aZ 2 i C D λj=>(aA true 2 e j).bind λE=>(aA true 2 i j).bind λF=>(aI c DL [E,F] j).bind λb=>(dB b.1 0).bind λG=>(dB b.1 1).bind λH=>(aA false 1 f b.2).bind λJ=>(dY G J).bind λa=>bD a true d b.2 λk=>aJ a true (aA true 2 i k.2) k.2 λx=>bD a true H x.2 λl=>eR a true (fI c h 2 k.1 [x.1,l.1] l.2) l.2 λy=>aJ a true (dL y.1) y.2 λn=>(bN a n.1 (B false)).bind λK=>aL K (some (AV.tup [],n.2)) ((bI g (I 1)).bind λL=>s d e f o p t v w L n.2 (q+28))) (vf c h u r d e f p t v m (q+1))
def H5(c:aK)(h:FHs)(u:Nat)(r:eB):Nat->pD
 |0=>λ_ _ _ _ _ _ _ _ _ _ _=>none
 |n+1=>QP c h u r (H5 c h u r n)
def ve(c:aK)(h:FHs)(u:Nat)(r:eB):eB:=λd e f a g b m q=>(aT 1 a b).bind λi=>(aA false 1 i m).bind λj=>(cW xa1 [(0,1,(I 1)),(1,1,(I (-1)))]).bind λk=>H5 c h u r NN d e f j a g b k (I 0) m (q+5)
def QO(c:aK)(h:FHs)(u:Nat)(r:eB):eB:=λd e f g a b m q=>(bU b a).bind λi=>aL i (ve c h u r d e f g a b m (q+1)) ((some (AV.tup [],m)))
def zZ(c:aK)(h:FHs)(u:Nat):Nat->eB
 |0=>λ_ _ _ _ _ _ _ _=>none
 |n+1=>QO c h u (zZ c h u n)
def QN:nA:=λc h u b d e f m q=>(aA false 1 d m).bind λa=>(aN prog fG a).bind λg=>zZ c h u NN b e f a g (I 0) m (q+3)
def QR:bR:=λc h u f g m q=>cD f (u,q,2) m λi j=>cD g (u,q+1,3) j λe d=>(aB 0 i).bind λk=>(aB 1 k).bind λl=>(aA false 1 l d).bind λn=>(aB 0 e).bind λo=>(aA false 1 o d).bind λp=>(aT 2 n p).bind λr=>(aA true 2 r d).bind λs=>dH xP (u,q+11,6) d λb t=>aZ 2 b s t λa=>(aB 1 e).bind λv=>(aA false 1 v a).bind λw=>(bU w (I 0)).bind λx=>aL x ((aB 1 b).bind λy=>(aA false 1 y a).bind λz=>(aB 0 b).bind λA=>(aA false 1 A a).bind λB=>some (AV.tup [z,B],a)) ((aB 0 b).bind λC=>(aA false 1 C a).bind λD=>(aB 1 b).bind λE=>(aA false 1 E a).bind λF=>some (AV.tup [D,F],a))
def vh:iM:=λc h u m q=>some (AV.tup [(I 0),(I 0)],m)
def QU(c:aK)(h:FHs)(u:Nat)(r:bZ):bZ:=λk l n a m q=>(bU a n).bind λt=>aL t ((aT 3 l a).bind λv=>(aA true 3 v m).bind λw=>dH qN (u,q+4,5) m λb x=>aZ 3 b w x λo=>(aB 0 b).bind λy=>(aA false 1 y o).bind λz=>(aI c DJ [z] o).bind λf=>(dL f.1).bind λA=>aL A (some (AV.tup [a,(I 4)],f.2)) ((eP prog lX k none (some a)).bind λC=>(aI c DV [C,(AV.clo nK [b])] f.2).bind λe=>aL e.1 (some (AV.tup [a,(I 5)],e.2)) ((aB 1 b).bind λD=>(aA false 1 D e.2).bind λE=>(aI c uT [E,(I 0),(I 100000)] e.2).bind λp=>(dL p.1).bind λd=>aJ d false (aB 2 b) p.2 λg=>aJ d false (aA false 1 g.1 g.2) g.2 λi=>eR d false (aI c O5 [i.1,(I 100000)] i.2) i.2 λs=>aJ d false (dL s.1) s.2 λj=>(bN d (B true) j.1).bind λF=>aL F (some (AV.tup [a,(I 2)],j.2)) ((bI a (I 1)).bind λG=>r k l n G j.2 (q+31))))) (vh c h u m (q+1))
def H6(c:aK)(h:FHs)(u:Nat):Nat->bZ
 |0=>λ_ _ _ _ _ _=>none
 |n+1=>QU c h u (H6 c h u n)
def vg:cI:=λc h u a m q=>(aN prog lX a).bind λb=>H6 c h u NN a a b (I 0) m (q+3)
def QS:cI:=λc h u a m q=>(aN prog lX a).bind λb=>(eQ b (I 60)).bind λd=>aL d (some (AV.tup [(I 0),(I 8)],m)) (vg c h u a m (q+5))
def vu(c:aK)(h:FHs)(u:Nat)(r:bZ):bZ:=λa b d e m q=>(jP e (I 2)).bind λf=>r a b d f m (q+3)
def xll(c:aK)(h:FHs)(u:Nat)(r:bZ):dE:=λb a d e f m q=>(bI f e).bind λg=>(bU g a).bind λi=>aL i ((c h xfd [b,f,g,a,d] m).bind λj=>vu c h u r b a d e j.2 (q+13)) (vu c h u r b a d e m (q+7))
def xlk(c:aK)(h:FHs)(u:Nat)(r:bZ)(s:eB):eB:=λd e f a g b m q=>(iT b e).bind λi=>aL i ((bI g a).bind λj=>(c h xfd [d,g,j,b,f] m).bind λk=>(jP (I 2) a).bind λl=>(bI b l).bind λn=>s d e f a b n k.2 (q+18)) (xll c h u r d e f a g m (q+3))
def js(c:aK)(h:FHs)(u:Nat)(r:bZ):Nat->eB
 |0=>λ_ _ _ _ _ _ _ _=>none
 |n+1=>xlk c h u r (js c h u r n)
def xlj(c:aK)(h:FHs)(u:Nat)(r:bZ):bZ:=λb d e a m q=>(jP (I 2) a).bind λf=>js c h u r NN b d e a (I 0) f m (q+4)
def vt(c:aK)(h:FHs)(u:Nat)(r:bZ):bZ:=λd a e b m q=>(bU b a).bind λf=>aL f (xlj c h u r d a e b m (q+3)) ((some (AV.tup [],m)))
def NW(c:aK)(h:FHs)(u:Nat):Nat->bZ
 |0=>λ_ _ _ _ _ _=>none
 |n+1=>vt c h u (NW c h u n)
def vr:xla:=λc h u a b d e f m q=>(c h P7 [a,f,b,d] m).bind λg=>NW c h u NN a b d e g.2 (q+5)
def vq(c:aK)(h:FHs)(u:Nat)(w:eB):eB:=λb d e f g a m q=>(iT a d).bind λi=>aL i ((c h P7 [b,g,a,e] m).bind λj=>(bI a f).bind λk=>w b d e f a k j.2 (q+14)) (vr c h u b d e f g m (q+3))
def NV(c:aK)(h:FHs)(u:Nat):Nat->eB
 |0=>λ_ _ _ _ _ _ _ _=>none
 |n+1=>vq c h u (NV c h u n)
def RD:gB:=λc h u a b d m q=>NV c h u NN a b d (I 20) (I 0) (I 20) m (q+4)
def PS:cI:=λc h u a m q=>(pO a).bind λb=>(yB a b).bind λd=>some (d,m)
def wb(c:aK)(h:FHs)(u:Nat)(r:eB):oD:=λb d e g F G H j m q=>(eQ d (I 0)).bind λa=>bD a true b m λp=>bD a true d p.2 λs=>aJ a true (eM s.1 (I 1)) s.2 λt=>aJ a true (aT 1 p.1 t.1) t.2 λk=>aJ a true (aA false 1 k.1 k.2) k.2 λv=>bD a true b v.2 λw=>bD a true j w.2 λx=>aJ a true (aT 1 w.1 x.1) x.2 λl=>aJ a true (aA false 1 l.1 l.2) l.2 λn=>eR a true (aI c T6 [v.1,n.1] n.2) n.2 λy=>aJ a true (dL y.1) y.2 λo=>(bN a o.1 (B false)).bind λJ=>aL J ((c h xz2 [b,d,e,j] o.2).bind λz=>r b z.1 e g F G z.2 (q+23)) ((c h xz1 [b,d,e,j] o.2).bind λi=>(dB i.1 0).bind λf=>(dB i.1 1).bind λA=>(eM f d).bind λC=>(eM e f).bind λD=>(KN H (I 8)).bind λE=>(bU C D).bind λK=>aL K ((kL C E).bind λL=>(c h P6 [b,d,f,g] i.2).bind λM=>(bI f (I 1)).bind λN=>r b N e g L A M.2 (q+53)) ((kL D E).bind λO=>(bI f (I 1)).bind λP=>(c h P6 [b,P,e,g] i.2).bind λQ=>r b d f g O A Q.2 (q+53)))
def vz(c:aK)(h:FHs)(u:Nat)(r:eB):pD:=λb d e k a f l n s m q=>bD a true f m λo=>(bN a o.1 (B false)).bind λg=>bD g true s o.2 λp=>aJ g true (dY p.1 (I 1)) p.2 λi=>(bN g i.1 (B false)).bind λt=>aL t ((c h xz3 [b,d,e] i.2).bind λj=>aL j.1 (some (AV.tup [],j.2)) (wb c h u r b d e k a f l n j.2 (q+12))) (wb c h u r b d e k a f l n i.2 (q+8))
def xln(c:aK)(h:FHs)(u:Nat)(r:eB):pD:=λd a b e f g i j k m q=>(dY k (I 2)).bind λl=>aL l ((c h xz0 [d,a,b] m).bind λn=>(eM b (I 1)).bind λo=>(eM j a).bind λp=>(eM o p).bind λs=>vz c h u r d a b e f g i s (I 1) n.2 (q+14)) (vz c h u r d a b e f g i j k m (q+2))
def vy(c:aK)(h:FHs)(u:Nat)(r:eB):gY:=λb d e f g i j m q=>(c h xz5 [b,d,e] m).bind λa=>(dB a.1 0).bind λk=>(dB a.1 1).bind λl=>xln c h u r b d e f g i j k l a.2 (q+9)
def xlm(c:aK)(h:FHs)(u:Nat)(r:eB):gY:=λa b d f e g i m q=>(dL e).bind λj=>aL j ((c h xz6 [a,b,d] m).bind λk=>(eM f (I 1)).bind λl=>vy c h u r a b d l e g i k.2 (q+9)) (vy c h u r a b d f e g i m (q+2))
def vw(c:aK)(h:FHs)(u:Nat)(r:eB):eB:=λd a b e g i m q=>(eM b a).bind λf=>(iT f (I 12)).bind λj=>aL j ((c h DP [d,a,b] m).bind λk=>some (AV.tup [],k.2)) ((dY e (I 0)).bind λl=>aL l ((c h xz4 [d,a,b] m).bind λn=>some (AV.tup [],n.2)) (xlm c h u r d a b e g i f m (q+8)))
def NX(c:aK)(h:FHs)(u:Nat):Nat->eB
 |0=>λ_ _ _ _ _ _ _ _=>none
 |n+1=>vw c h u (NX c h u n)
def RE:nA:=λc h u a b d e m q=>NX c h u NN a b d e (B true) (B true) m (q+2)
def WL:cI:=λc h u a m q=>aL (B false) ((oJ prog YI xm4 a).bind λe=>(aI c xz7 [e] m).bind λb=>some (b.1,b.2)) ((aI c EX [a] m).bind λd=>some (d.1,d.2))
def ui:iM:=λc h u m q=>some ((B true),m)
def PZ(c:aK)(h:FHs)(u:Nat)(r:dK):dK:=λa b d m q=>(bI d (I 1)).bind λe=>r a b e m (q+2)
def PY(c:aK)(h:FHs)(u:Nat)(r:dK):eB:=λv e g i j w m q=>aL w (PZ c h u r g i j m q) ((eQ v (I 0)).bind λb=>bD b true e m λk=>aJ b true (cO prog .eql gQ (.tmp 37) (.const (.int .u8 45)) k.1 (AV.sc (.int .u8 45))) k.2 λl=>bD b true l.1 l.2 λa=>bD a.1 false e a.2 λn=>aJ a.1 false (cO prog .geq gQ (.tmp 40) (.const (.int .u8 48)) n.1 (AV.sc (.int .u8 48))) n.2 λo=>bD a.1 false o.1 o.2 λd=>bD d.1 true e d.2 λp=>aJ d.1 true (cO prog .leq gQ (.tmp 43) (.const (.int .u8 57)) p.1 (AV.sc (.int .u8 57))) p.2 λs=>aJ a.1 false (bN d.1 s.1 (B false)) s.2 λt=>aJ b true (bN a.1 (B true) t.1) t.2 λf=>(bN b f.1 (B false)).bind λx=>aL x (PZ c h u r g i j f.2 (q+15)) (some ((B false),f.2)))
def uh(c:aK)(h:FHs)(u:Nat)(r:dK):dE:=λf a g i j m q=>(cO prog .geq gQ (.tmp 21) (.const (.int .u8 97)) a (AV.sc (.int .u8 97))).bind λb=>bD b true a m λk=>aJ b true (cO prog .leq gQ (.tmp 24) (.const (.int .u8 122)) k.1 (AV.sc (.int .u8 122))) k.2 λd=>(bN b d.1 (B false)).bind λl=>aL l (PY c h u r f a g i j l d.2 (q+7)) ((cO prog .geq gQ (.tmp 27) (.const (.int .u8 65)) a (AV.sc (.int .u8 65))).bind λe=>bD e true a d.2 λn=>aJ e true (cO prog .leq gQ (.tmp 30) (.const (.int .u8 90)) n.1 (AV.sc (.int .u8 90))) n.2 λo=>(bN e o.1 (B false)).bind λp=>PY c h u r f a g i j p o.2 (q+14))
def ug(c:aK)(h:FHs)(u:Nat)(r:dK):dK:=λb d a m q=>(aT 1 b a).bind λe=>(aA false 1 e m).bind λf=>uh c h u r a f b d a m (q+5)
def PX(c:aK)(h:FHs)(u:Nat)(r:dK):dK:=λd a b m q=>(bU b a).bind λe=>aL e (ug c h u r d a b m (q+1)) (ui c h u m (q+1))
def H4(c:aK)(h:FHs)(u:Nat):Nat->dK
 |0=>λ_ _ _ _ _=>none
 |n+1=>PX c h u (H4 c h u n)
def uf:cI:=λc h u b m q=>(oJ prog cF xS b).bind λa=>(aN prog xS a).bind λd=>H4 c h u NN a d (I 0) m (q+4)
def PW:cI:=λc h u b m q=>(cO prog .eql cF (.tmp 5) (.const (.string ⟨#[]⟩)) b (AV.sc (.string ⟨#[]⟩))).bind λa=>bD a false b m λe=>aJ a false (fL e.1) e.2 λf=>aJ a false (eQ f.1 (I 12)) f.2 λd=>(bN a (B true) d.1).bind λg=>aL g (some ((B false),d.2)) (uf c h u b d.2 (q+8))
def SI:bR:=λc h u b d m q=>(dZ c B4 [b,d] m).bind λa=>(kL a.1 (I 0)).bind λe=>some (e,a.2)
def QT:bR:=λc h u b d m q=>cD b (u,q,2) m λe a=>(aB 0 e).bind λf=>(aA false 1 f a).bind λg=>(aB 0 d).bind λi=>(aA false 1 i a).bind λj=>(cO prog .eql cF (.tmp 5) (.tmp 7) g j).bind λk=>some (k,a)
def RK(c:aK)(h:FHs)(u:Nat)(r:dE):dE:=λa b d e f m q=>(bI f (I 1)).bind λg=>r a b d e g m (q+3)
def RJ(c:aK)(h:FHs)(u:Nat)(r:dE)(s:eB):eB:=λb f l g n d m q=>(eQ d f).bind λa=>bD a true g m λo=>bD a true b o.2 λp=>bD a true d p.2 λt=>aJ a true (aT 1 p.1 t.1) t.2 λi=>aJ a true (aA false 1 i.1 i.2) i.2 λv=>bD a true b v.2 λw=>bD a true d w.2 λx=>aJ a true (eM x.1 (I 1)) x.2 λy=>aJ a true (aT 1 w.1 y.1) y.2 λj=>aJ a true (aA false 1 j.1 j.2) j.2 λk=>eR a true (fI c h 2 o.1 [v.1,k.1] k.2) k.2 λz=>aJ a true (bU z.1 (I 0)) z.2 λe=>(bN a e.1 (B false)).bind λA=>aL A ((eM d (I 1)).bind λC=>(eM d (I 1)).bind λD=>(aT 1 b D).bind λE=>(aA false 1 E e.2).bind λF=>(aT 1 b d).bind λG=>(aA false 1 G e.2).bind λH=>(aT 1 b d).bind λJ=>aZ 1 J F e.2 λK=>(aT 1 b C).bind λL=>aZ 1 L H K λM=>(eM d (I 1)).bind λN=>s b f l g n N M (q+38)) (RK c h u r b f l g n e.2 (q+17))
def Z1(c:aK)(h:FHs)(u:Nat)(r:dE):Nat->eB
 |0=>λ_ _ _ _ _ _ _ _=>none
 |n+1=>RJ c h u r (Z1 c h u r n)
def wg(c:aK)(h:FHs)(u:Nat)(r:dE):dE:=λb d e f a m q=>Z1 c h u r NN b d e f a a m (q+2)
def HV(c:aK)(h:FHs)(u:Nat)(r:dE):dE:=λd e a f b m q=>(bU b a).bind λg=>aL g (wg c h u r d e a f b m (q+3)) ((some (AV.tup [],m)))
def d4(c:aK)(h:FHs)(u:Nat):Nat->dE
 |0=>λ_ _ _ _ _ _ _=>none
 |n+1=>HV c h u (d4 c h u n)
def RI:nA:=λc h u b a d e m q=>(bI a (I 1)).bind λf=>d4 c h u NN b a d e f m (q+3)
def RH(c:aK)(h:FHs)(u:Nat)(r:bZ):bZ:=λa b d e m q=>(bI e (I 1)).bind λf=>r a b d f m (q+3)
def RG(c:aK)(h:FHs)(u:Nat)(r:bZ)(s:dE):dE:=λb f k l d m q=>(eQ d f).bind λa=>bD a true b m λn=>bD a true d n.2 λo=>aJ a true (aT 1 n.1 o.1) o.2 λg=>aJ a true (aA false 1 g.1 g.2) g.2 λp=>bD a true b p.2 λt=>bD a true d t.2 λv=>aJ a true (eM v.1 (I 1)) v.2 λw=>aJ a true (aT 1 t.1 w.1) w.2 λi=>aJ a true (aA false 1 i.1 i.2) i.2 λj=>eR a true (aI c T6 [p.1,j.1] j.2) j.2 λe=>(bN a e.1 (B false)).bind λx=>aL x ((eM d (I 1)).bind λy=>(eM d (I 1)).bind λz=>(aT 1 b z).bind λA=>(aA false 1 A e.2).bind λC=>(aT 1 b d).bind λD=>(aA false 1 D e.2).bind λE=>(aT 1 b d).bind λF=>aZ 1 F C e.2 λG=>(aT 1 b y).bind λH=>aZ 1 H E G λJ=>(eM d (I 1)).bind λK=>s b f k l K J (q+36)) (RH c h u r b f k l e.2 (q+15))
def Z0(c:aK)(h:FHs)(u:Nat)(r:bZ):Nat->dE
 |0=>λ_ _ _ _ _ _ _=>none
 |n+1=>RG c h u r (Z0 c h u r n)
def wd(c:aK)(h:FHs)(u:Nat)(r:bZ):bZ:=λb d e a m q=>Z0 c h u r NN b d e a a m (q+2)
def HU(c:aK)(h:FHs)(u:Nat)(r:bZ):bZ:=λd e a b m q=>(bU b a).bind λf=>aL f (wd c h u r d e a b m (q+3)) ((some (AV.tup [],m)))
def b9(c:aK)(h:FHs)(u:Nat):Nat->bZ
 |0=>λ_ _ _ _ _ _=>none
 |n+1=>HU c h u (b9 c h u n)
def RF:gB:=λc h u b a d m q=>(bI a (I 1)).bind λe=>b9 c h u NN b a d e m (q+3)
def XP:bR:=λc h u e f m q=>(aI c T5 [e] m).bind λa=>bD a.1 true f a.2 λd=>eR a.1 true (aI c T5 [d.1] d.2) d.2 λg=>aJ a.1 true (dL g.1) g.2 λi=>(bN a.1 i.1 (B false)).bind λb=>bD b false e i.2 λj=>bD b false f j.2 λk=>aJ b false (bU j.1 k.1) k.2 λl=>(bN b (B true) l.1).bind λn=>some (n,l.2)
def wo:iM:=λc h u m q=>some ((I (-1)),m)
def RU(c:aK)(h:FHs)(u:Nat)(r:bZ):bZ:=λd e f a m q=>(bU a f).bind λg=>aL g ((aT 3 d a).bind λi=>(aA true 3 i m).bind λj=>(fI c h 2 e [j] m).bind λb=>aL b.1 (some (a,b.2)) ((bI a (I 1)).bind λk=>r d e f k b.2 (q+11))) (wo c h u m (q+1))
def H9(c:aK)(h:FHs)(u:Nat):Nat->bZ
 |0=>λ_ _ _ _ _ _=>none
 |n+1=>RU c h u (H9 c h u n)
def RT:bR:=λc h u a b m q=>(aN prog lX a).bind λd=>H9 c h u NN a b d (I 0) m (q+3)
def HX:bR:=λc h u a b m q=>RT c h u a b m (q+1)
def XO:cI:=λc h u a m q=>(eC a a).bind λb=>some (b,m)
def UF:bR:=λc h u N O m q=>cD N (u,q,3) m λP Q=>cD O (u,q+1,4) Q λb g=>(aB 0 P).bind λx=>(aA true 3 x g).bind λR=>(aA false 1 b g).bind λS=>(cA S).bind λT=>(aB 1 T).bind λU=>(aB 0 U).bind λl=>(aA false 1 l g).bind λV=>(aN prog lX V).bind λi=>dH qN (u,q+11,7) g λd W=>aZ 3 d R W λn=>bif(aY (tR x) (some [],some [(u,q+11,7)])&&(aY (tR b) (some [],some [(u,q+11,7)])&&(aY (tR l) (some [],some [(u,q+11,7)])&&(aY (tR b) (tS d)&&(aY (tR l) (tS d)&&true)))))then (dY i (I 12)).bind λX=>aL X (some ((I 16),n)) ((aB 0 d).bind λY=>(aA false 1 Y n).bind λZ=>(dZ c rO [Z,(AV.clo uU [b]),i] n).bind λo=>(aB 1 d).bind λaa=>(aA false 1 aa o.2).bind λab=>(aI c rM [ab,(I 0),(I 100000)] o.2).bind λf=>aJ f.1 true (aB 2 d) f.2 λp=>aJ f.1 true (aA false 1 p.1 p.2) p.2 λr=>eR f.1 true (aI c rN [r.1,(I 100000)] r.2) r.2 λy=>(bN f.1 y.1 (B false)).bind λac=>(aI c pS [ac] y.2).bind λz=>dC qO [(0,1,o.1),(1,1,z.1)] 2 1 (u,q+30,34) z.2 λad ae=>(aI c uV [ad] ae).bind λj=>(eC j.1 (I 0)).bind λaf=>aL af (some (j.1,j.2)) ((eQ i (I 0)).bind λa=>aJ a true (aB 1 d) j.2 λs=>aJ a true (aA false 1 s.1 s.2) s.2 λt=>aJ a true (aA false 1 b t.2) t.2 λA=>aJ a true (cA A.1) A.2 λC=>aJ a true (aB 1 C.1) C.2 λD=>aJ a true (aB 0 D.1) D.2 λv=>aJ a true (aA false 1 v.1 v.2) v.2 λE=>bD a true i E.2 λF=>aJ a true (eM F.1 (I 1)) F.2 λG=>aJ a true (aT 3 E.1 G.1) G.2 λH=>aJ a true (aB 1 H.1) H.2 λw=>aJ a true (aA false 1 w.1 w.2) w.2 λJ=>aJ a true (iT t.1 J.1) J.2 λe=>(bN a e.1 (B false)).bind λag=>aL ag (some ((I 9),e.2)) ((aA false 1 b e.2).bind λah=>(aA false 1 b e.2).bind λai=>(cA ai).bind λaj=>(aB 1 aj).bind λak=>(aB 0 ak).bind λK=>(aA false 1 K e.2).bind λal=>(aI c Q9 [al] e.2).bind λk=>(aA true 3 d k.2).bind λam=>dC qN [(0,3,am)] 1 3 (u,q+60,64) k.2 λL M=>cX 3 32 (u,q+61,65) (elems M.get 3 L) k.1 M λan ao=>(cA ah).bind λap=>(aB 1 ap).bind λaq=>(aB 0 aq).bind λar=>aZ 1 ar an ao λau=>bif(aY (tR b) (some [],some [(u,q+60,64)])&&(aY (tR b) (some [],some [(u,q+60,64)])&&(aY (tR K) (some [],some [(u,q+60,64)])&&(aY (tR b) (tX L,tA (u,q+61,65) k.1)&&true))))then some ((I 0),au)else none)))else none
def UE:bR:=λc h u a b m q=>(aA false 1 b m).bind λd=>(cA d).bind λe=>(aB 1 e).bind λf=>(aB 0 f).bind λg=>(aA false 1 g m).bind λi=>(aT 3 i a).bind λj=>(aB 0 j).bind λk=>(aA false 1 k m).bind λl=>some (l,m)
def SS:cI:=λc h u a m q=>(aN prog lX a).bind λb=>(aN prog lX a).bind λd=>(nH prog lX a none b d).bind λe=>some (e,m)
def UH:bR:=λc h u J d m q=>cD J (u,q,3) m λe n=>(cA d).bind λt=>(aA true 5 t n).bind λK=>(aB 0 e).bind λv=>(aA false 1 v n).bind λL=>(dZ c wK [K,L] n).bind λf=>(cA d).bind λw=>(aA true 5 w f.2).bind λM=>(aB 1 e).bind λx=>(aA false 1 x f.2).bind λN=>(dZ c wJ [M,N] f.2).bind λg=>(cA d).bind λy=>(aA true 5 y g.2).bind λO=>(aB 2 e).bind λz=>(aA false 1 z g.2).bind λP=>(dZ c wJ [O,P] g.2).bind λo=>(aB 3 e).bind λA=>(aA false 1 A o.2).bind λQ=>(cW tW [(0,1,f.1),(1,1,g.1),(2,1,o.1),(3,1,Q)]).bind λR=>dH tW (u,q+23,7) o.2 λa S=>aZ 4 a R S λC=>bif(aY (tR t) (some [],some [(u,q+23,7)])&&(aY (tR v) (some [],some [(u,q+23,7)])&&(aY (tR w) (some [],some [(u,q+23,7)])&&(aY (tR x) (some [],some [(u,q+23,7)])&&(aY (tR y) (some [],some [(u,q+23,7)])&&(aY (tR z) (some [],some [(u,q+23,7)])&&(aY (tR A) (some [],some [(u,q+23,7)])&&true)))))))then (aB 0 a).bind λT=>(aA false 1 T C).bind λU=>(bU U (I 0)).bind λi=>aJ i false (aB 1 a) C λp=>aJ i false (aA false 1 p.1 p.2) p.2 λD=>aJ i false (bU D.1 (I 0)) D.2 λE=>(bN i (B true) E.1).bind λj=>aJ j false (aB 2 a) E.2 λr=>aJ j false (aA false 1 r.1 r.2) r.2 λF=>aJ j false (bU F.1 (I 0)) F.2 λb=>(bN j (B true) b.1).bind λV=>aL V (some ((I 6),b.2)) ((aB 1 a).bind λW=>(aA false 1 W b.2).bind λX=>(aB 2 a).bind λY=>(aA false 1 Y b.2).bind λZ=>(kL X Z).bind λaa=>aL aa (some ((I 9),b.2)) ((cA d).bind λab=>(aB 1 ab).bind λac=>(aB 1 ac).bind λad=>(aA false 1 ad b.2).bind λae=>(dZ c Q4 [ae,(AV.clo pT [a])] b.2).bind λk=>aL k.1 (some ((I 28),k.2)) ((aB 3 a).bind λaf=>(aA false 1 af k.2).bind λag=>(aI c rN [ag,(I 100000)] k.2).bind λl=>(dL l.1).bind λah=>aL ah (some ((I 2),l.2)) ((cA d).bind λai=>(aB 1 ai).bind λaj=>(aB 1 aj).bind λG=>(aA false 1 G l.2).bind λak=>(aI c DY [ak] l.2).bind λs=>(aA true 4 a s.2).bind λal=>dC tW [(0,4,al)] 1 4 (u,q+66,70) s.2 λam H=>cX 4 32 (u,q+67,71) (elems H.get 4 am) s.1 H λan ao=>(cA d).bind λap=>(aB 1 ap).bind λaq=>(aB 1 aq).bind λar=>aZ 1 ar an ao λau=>bif(aY (tR G) (some [],some [(u,q+66,70)])&&true)then some ((I 0),au)else none))))else none
def VQ:bR:=λc h u d e m q=>cD d (u,q,2) m λf g=>cD e (u,q+1,3) g λi a=>(aB 1 f).bind λj=>(aB 0 j).bind λk=>(aA false 1 k a).bind λl=>(dZ c B4 [l,(AV.clo C0 [i])] a).bind λb=>some (b.1,b.2)
def SJ:bR:=λc h u b d m q=>(dZ c P9 [b,d] m).bind λa=>(kL a.1 (I 0)).bind λe=>some (e,a.2)
def UG:bR:=λc h u t d m q=>cD t (u,q,2) m λe f=>(aB 0 e).bind λv=>(aA false 1 v f).bind λw=>(aB 0 d).bind λx=>(aA false 1 x f).bind λy=>(dY w y).bind λa=>aJ a true (aB 1 e) f λg=>aJ a true (aA false 1 g.1 g.2) g.2 λl=>aJ a true (aB 1 d) l.2 λi=>aJ a true (aA false 1 i.1 i.2) i.2 λn=>aJ a true (dY l.1 n.1) n.2 λo=>(bN a o.1 (B false)).bind λb=>aJ b true (aB 2 e) o.2 λj=>aJ b true (aA false 1 j.1 j.2) j.2 λp=>aJ b true (aB 2 d) p.2 λk=>aJ b true (aA false 1 k.1 k.2) k.2 λr=>aJ b true (dY p.1 r.1) r.2 λs=>(bN b s.1 (B false)).bind λz=>some (z,s.2)
def ST:cI:=λc h u a m q=>(aN prog qQ a).bind λb=>(aN prog qQ a).bind λd=>(nH prog qQ a none b d).bind λe=>some (e,m)
def VP:bR:=λc h u b d m q=>cD b (u,q,2) m λe a=>(aB 0 e).bind λf=>(aA false 1 f a).bind λg=>(aA false 1 d a).bind λi=>(cO prog .eql cF (.tmp 5) (.tmp 6) g i).bind λj=>some (j,a)
def xlt:iM:=λc h u m q=>some ((I (-1)),m)
def xls(c:aK)(h:FHs)(u:Nat)(r:bZ):bZ:=λd e f a m q=>(bU a f).bind λg=>aL g ((aT 4 d a).bind λi=>(aA true 4 i m).bind λj=>(fI c h 2 e [j] m).bind λb=>aL b.1 (some (a,b.2)) ((bI a (I 1)).bind λk=>r d e f k b.2 (q+11))) (xlt c h u m (q+1))
def OA(c:aK)(h:FHs)(u:Nat):Nat->bZ
 |0=>λ_ _ _ _ _ _=>none
 |n+1=>xls c h u (OA c h u n)
def wr:bR:=λc h u a b m q=>(aN prog qQ a).bind λd=>OA c h u NN a b d (I 0) m (q+3)
def RX:bR:=λc h u a b m q=>wr c h u a b m (q+1)
def VI:iM:=λc h u m q=>some ((I 0),m)
def IF(c:aK)(h:FHs)(u:Nat)(r:dE):dE:=λa b d e f m q=>(bI f (I 1)).bind λg=>r a b d e g m (q+2)
def yj(c:aK)(h:FHs)(u:Nat)(r:dE):dE:=λe b d g f m q=>(cA e).bind λi=>(aB 1 i).bind λj=>(aB 1 j).bind λk=>(aA false 1 k m).bind λl=>(aT 4 l f).bind λa=>(cA a).bind λn=>(aB 2 n).bind λo=>(aA false 1 o m).bind λp=>(dY d p).bind λs=>aL s ((cA a).bind λt=>(aB 3 t).bind λv=>(aA false 1 v m).bind λw=>(aB 1 b).bind λx=>(aA false 1 x m).bind λy=>(bI w y).bind λz=>(cA a).bind λA=>(aB 3 A).bind λB=>aZ 1 B z m λC=>IF c h u r e b d g f C (q+27)) ((cA a).bind λD=>(aB 1 D).bind λE=>(aA false 1 E m).bind λF=>(dY d F).bind λG=>aL G ((cA a).bind λH=>(aB 3 H).bind λI=>(aA false 1 I m).bind λJ=>(aB 1 b).bind λK=>(aA false 1 K m).bind λL=>(eM J L).bind λM=>(cA a).bind λN=>(aB 3 N).bind λO=>aZ 1 O M m λP=>IF c h u r e b d g f P (q+33)) (IF c h u r e b d g f m (q+23)))
def IE(c:aK)(h:FHs)(u:Nat)(r:dE):dE:=λd e f a b m q=>(bU b a).bind λg=>aL g (yj c h u r d e f a b m (q+1)) (VI c h u m (q+1))
def xK(c:aK)(h:FHs)(u:Nat):Nat->dE
 |0=>λ_ _ _ _ _ _ _=>none
 |n+1=>IE c h u (xK c h u n)
def yi:gB:=λc h u a b d m q=>(cA a).bind λe=>(aB 1 e).bind λf=>(aB 1 f).bind λg=>(aA false 1 g m).bind λi=>(aN prog qQ i).bind λj=>xK c h u NN a b d j (I 0) m (q+7)
def VH:bR:=λc h u i b m q=>cD i (u,q,3) m λe f=>(cA b).bind λj=>(aA true 5 j f).bind λk=>(aB 0 e).bind λl=>(aA false 1 l f).bind λn=>(dZ c wJ [k,n] f).bind λa=>(bU a.1 (I 0)).bind λo=>aL o (some ((I 6),a.2)) ((aB 1 e).bind λp=>(aA false 1 p a.2).bind λr=>(aI c rN [r,(I 10000)] a.2).bind λd=>(dL d.1).bind λs=>aL s (some ((I 2),d.2)) ((cA b).bind λt=>(aB 1 t).bind λv=>(aB 1 v).bind λw=>(aA false 1 w d.2).bind λx=>(uL c Q8 [x] d.2).bind λg=>(cA b).bind λy=>(aB 1 y).bind λz=>(aB 1 z).bind λA=>aZ 1 A g.1 g.2 λB=>yi c h u b e a.1 B (q+28)))
def UP:gB:=λc h u H b J m q=>cD H (u,q,3) m λe n=>(cA b).bind λt=>(aA true 5 t n).bind λK=>(aB 0 e).bind λv=>(aA false 1 v n).bind λL=>(dZ c wK [K,L] n).bind λf=>(cA b).bind λw=>(aA true 5 w f.2).bind λM=>(aB 1 e).bind λx=>(aA false 1 x f.2).bind λN=>(dZ c wJ [M,N] f.2).bind λg=>(aB 2 e).bind λy=>(aA false 1 y g.2).bind λO=>(aB 3 e).bind λz=>(aA false 1 z g.2).bind λP=>(cW xR [(0,1,J),(1,1,f.1),(2,1,g.1),(3,1,O),(4,1,P)]).bind λQ=>dH xR (u,q+20,7) g.2 λa R=>aZ 5 a Q R λA=>bif(aY (tR t) (some [],some [(u,q+20,7)])&&(aY (tR v) (some [],some [(u,q+20,7)])&&(aY (tR w) (some [],some [(u,q+20,7)])&&(aY (tR x) (some [],some [(u,q+20,7)])&&(aY (tR y) (some [],some [(u,q+20,7)])&&(aY (tR z) (some [],some [(u,q+20,7)])&&true))))))then (aB 1 a).bind λS=>(aA false 1 S A).bind λT=>(bU T (I 0)).bind λi=>aJ i false (aB 2 a) A λo=>aJ i false (aA false 1 o.1 o.2) o.2 λC=>aJ i false (bU C.1 (I 0)) C.2 λj=>(bN i (B true) j.1).bind λU=>aL U (some ((I 6),j.2)) ((aB 3 a).bind λV=>(aA false 1 V j.2).bind λW=>(aI c rN [W,(I 1000000)] j.2).bind λD=>(dL D.1).bind λd=>aJ d false (aB 4 a) D.2 λp=>aJ d false (aA false 1 p.1 p.2) p.2 λr=>eR d false (aI c rM [r.1,(I 0),(I 1000000)] r.2) r.2 λE=>aJ d false (dL E.1) E.2 λk=>(bN d (B true) k.1).bind λX=>aL X (some ((I 2),k.2)) ((cA b).bind λY=>(aB 1 Y).bind λZ=>(aB 2 Z).bind λaa=>(aA false 1 aa k.2).bind λab=>(dZ c Q5 [ab,(AV.clo pU [a])] k.2).bind λl=>aL l.1 (some ((I 28),l.2)) ((cA b).bind λac=>(aB 1 ac).bind λad=>(aB 2 ad).bind λF=>(aA false 1 F l.2).bind λae=>(aI c DZ [ae] l.2).bind λs=>(aA true 5 a s.2).bind λaf=>dC xR [(0,5,af)] 1 5 (u,q+58,62) s.2 λag G=>cX 5 40 (u,q+59,63) (elems G.get 5 ag) s.1 G λah ai=>(cA b).bind λaj=>(aB 1 aj).bind λak=>(aB 2 ak).bind λal=>aZ 1 al ah ai λam=>bif(aY (tR F) (some [],some [(u,q+58,62)])&&true)then some ((I 0),am)else none)))else none
def SK:bR:=λc h u b d m q=>(dZ c Q0 [b,d] m).bind λa=>(kL a.1 (I 0)).bind λe=>some (e,a.2)
def UO:bR:=λc h u l f m q=>cD l (u,q,2) m λg b=>(aB 1 g).bind λn=>(aA false 1 n b).bind λo=>(aB 1 f).bind λp=>(aA false 1 p b).bind λr=>(dY o r).bind λa=>aJ a true (aB 2 g) b λd=>aJ a true (aA false 1 d.1 d.2) d.2 λi=>aJ a true (aB 2 f) i.2 λe=>aJ a true (aA false 1 e.1 e.2) e.2 λj=>aJ a true (dY i.1 j.1) j.2 λk=>(bN a k.1 (B false)).bind λs=>some (s,k.2)
def SU:cI:=λc h u a m q=>(aN prog K4 a).bind λb=>(aN prog K4 a).bind λd=>(nH prog K4 a none b d).bind λe=>some (e,m)
def xlv:iM:=λc h u m q=>some ((I (-1)),m)
def xlu(c:aK)(h:FHs)(u:Nat)(r:bZ):bZ:=λd e f a m q=>(bU a f).bind λg=>aL g ((aT 5 d a).bind λi=>(aA true 5 i m).bind λj=>(fI c h 2 e [j] m).bind λb=>aL b.1 (some (a,b.2)) ((bI a (I 1)).bind λk=>r d e f k b.2 (q+11))) (xlv c h u m (q+1))
def OB(c:aK)(h:FHs)(u:Nat):Nat->bZ
 |0=>λ_ _ _ _ _ _=>none
 |n+1=>xlu c h u (OB c h u n)
def wu:bR:=λc h u a b m q=>(aN prog K4 a).bind λd=>OB c h u NN a b d (I 0) m (q+3)
def RY:bR:=λc h u a b m q=>wu c h u a b m (q+1)
end Go.Ix
