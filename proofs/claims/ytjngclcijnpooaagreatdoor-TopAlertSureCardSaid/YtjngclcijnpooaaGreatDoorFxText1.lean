import Derived.Test.YtjngclcijnpooaaGreatDoorFxConst
set_option linter.all false
open Go.Proofs.Tryz
noncomputable section
namespace Go.Ix
open Go.Proofs
def VJ:bR:=λc h u r d m q=>(cA d).bind λs=>(aA true 5 s m).bind λt=>(dZ c oO [t,r] m).bind λb=>(bU b.1 (I 0)).bind λv=>aL v (some ((I 6),b.2)) ((cA d).bind λw=>(aB 1 w).bind λx=>(aB 3 x).bind λy=>(aA false 1 y b.2).bind λz=>(aI c yM [z,b.1] b.2).bind λa=>bD a.1 false d a.2 λi=>aJ a.1 false (cA i.1) i.2 λf=>aJ a.1 false (aA true 5 f.1 f.2) f.2 λj=>bD a.1 false b.1 j.2 λg=>eR a.1 false (aI c wN [j.1,g.1] g.2) g.2 λk=>aJ a.1 false (M8 false 1 0 k.1) k.2 λl=>aJ a.1 false (eC l.1 (I 2)) l.2 λe=>(bN a.1 (B true) e.1).bind λA=>aL A (some ((I 24),e.2)) ((cA d).bind λC=>(aB 1 C).bind λD=>(aB 3 D).bind λE=>(aA false 1 E e.2).bind λF=>(aI c DX [F] e.2).bind λn=>dC iN [(0,1,b.1)] 1 1 (u,q+35,41) n.2 λG o=>cX 1 8 (u,q+36,42) (elems o.get 1 G) n.1 o λH J=>(cA d).bind λK=>(aB 1 K).bind λL=>(aB 3 L).bind λM=>aZ 1 M H J λp=>(cA d).bind λN=>(aB 1 N).bind λO=>(aB 3 O).bind λP=>(aA false 1 P p).bind λQ=>(c h B2 [Q] p).bind λR=>some ((I 0),R.2)))
def SG:bR:=λc h u b d m q=>(aI c DT [b,d] m).bind λa=>(kL a.1 (I 0)).bind λe=>some (e,a.2)
def SQ:cI:=λc h u a m q=>(aN prog fG a).bind λb=>(aN prog fG a).bind λd=>(nH prog fG a none b d).bind λe=>some (e,m)
def wn:iM:=λc h u m q=>some ((I (-1)),m)
def RQ(c:aK)(h:FHs)(u:Nat)(r:bZ):bZ:=λb d e a m q=>(bU a e).bind λf=>aL f ((aT 1 b a).bind λg=>(aA false 1 g m).bind λi=>(dY d i).bind λj=>aL j (some (a,m)) ((bI a (I 1)).bind λk=>r b d e k m (q+11))) (wn c h u m (q+1))
def Z2(c:aK)(h:FHs)(u:Nat):Nat->bZ
 |0=>λ_ _ _ _ _ _=>none
 |n+1=>RQ c h u (Z2 c h u n)
def wk:bR:=λc h u a b m q=>(aN prog fG a).bind λd=>Z2 c h u NN a b d (I 0) m (q+3)
def RP:bR:=λc h u a b m q=>wk c h u a b m (q+1)
def VL:bR:=λc h u t b m q=>(cA b).bind λv=>(aA true 5 v m).bind λw=>(dZ c oO [w,t] m).bind λk=>dH iN (u,q+6,7) k.2 λd x=>aZ 1 d k.1 x λe=>(aA false 1 d e).bind λy=>(bU y (I 0)).bind λz=>aL z (some ((I 6),e)) ((cA b).bind λA=>(aB 1 A).bind λC=>(aB 3 C).bind λD=>(aA false 1 D e).bind λE=>(aA false 1 d e).bind λF=>(aI c yM [E,F] e).bind λl=>(dL l.1).bind λa=>bD a false b l.2 λn=>aJ a false (cA n.1) n.2 λg=>aJ a false (aA true 5 g.1 g.2) g.2 λi=>aJ a false (aA false 1 d i.2) i.2 λj=>eR a false (aI c wN [i.1,j.1] j.2) j.2 λo=>aJ a false (M8 false 1 0 o.1) o.2 λp=>aJ a false (dY p.1 (I 2)) p.2 λf=>(bN a (B true) f.1).bind λG=>aL G (some ((I 24),f.2)) ((cA b).bind λH=>(aB 1 H).bind λJ=>(aB 3 J).bind λK=>(aA false 1 K f.2).bind λL=>(uL c Q7 [L] f.2).bind λr=>(c h Q1 [r.1,(AV.clo rQ [d])] r.2).bind λs=>(cA b).bind λM=>(aB 1 M).bind λN=>(aB 3 N).bind λO=>aZ 1 O s.1 s.2 λP=>some ((I 0),P)))
def wz:bR:=λc h u a b m q=>(eP prog fG a (some b) none).bind λd=>CO iN 1 d m λ_ e=>(eP prog fG a none (some b)).bind λf=>some (f,e)
def SE(c:aK)(h:FHs)(u:Nat)(r:bZ):bZ:=λa b d e m q=>(bI e (I 1)).bind λf=>r a b d f m (q+3)
def wy(c:aK)(h:FHs)(u:Nat)(r:bZ):bZ:=λa b d e m q=>(aT 1 a e).bind λi=>(aA false 1 i m).bind λg=>(fI c h 2 b [g] m).bind λf=>(dL f.1).bind λj=>aL j ((aT 1 a d).bind λk=>aZ 1 k g f.2 λl=>(bI d (I 1)).bind λn=>SE c h u r a b n e l (q+17)) (SE c h u r a b d e f.2 (q+9))
def SD(c:aK)(h:FHs)(u:Nat)(r:bZ):bZ:=λa e b d m q=>(aN prog fG a).bind λf=>(bU d f).bind λg=>aL g (wy c h u r a e b d m (q+4)) (wz c h u a b m (q+4))
def Z3(c:aK)(h:FHs)(u:Nat):Nat->bZ
 |0=>λ_ _ _ _ _ _=>none
 |n+1=>SD c h u (Z3 c h u n)
def wx:gB:=λc h u b d a m q=>(bI a (I 1)).bind λe=>Z3 c h u NN b d a e m (q+3)
def SB:bR:=λc h u b d m q=>(c h B3 [b,d] m).bind λa=>(dY a.1 (I (-1))).bind λe=>aL e (some (b,a.2)) (wx c h u b d a.1 a.2 (q+7))
def VK:bR:=λc h u a b m q=>(aA false 1 b m).bind λd=>(dY a d).bind λe=>some (e,m)
end Go.Ix
