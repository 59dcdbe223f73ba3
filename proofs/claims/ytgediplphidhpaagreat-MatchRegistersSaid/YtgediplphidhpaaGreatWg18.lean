import Derived.Test.YtgediplphidhpaaGreatWg17
import Derived.Test.YtgediplphidhpaaGreatWg10
import Derived.Test.YtgediplphidhpaaGreatWg3
set_option linter.unusedSimpArgs false
set_option linter.unusedVariables false
set_option maxRecDepth 10000
namespace Go.Ix
open Go.Proofs
variable{L S L2 S2:Int}{D D2:List Px}{l:List Mp}{a b:AV}
theorem frz_tup43{objs:Id->Option Ob}{a b c d a' b' c' d':AV}(ha:Go.Ix.frz objs 5 a=some a')(hb:Go.Ix.frz objs 5 b=some b')(hc:Go.Ix.frz objs 5 c=some c')(hd:Go.Ix.frz objs 5 d=some d'):Go.Ix.frz objs deep (.tup [a,b,c,d])=some (.tup [a',b',c',d']):=by
 show([a,b,c,d].mapM (Go.Ix.frz objs 5)).map AV.tup=_
 simp only[x1a9,x1b4,ha,hb,hc,hd]
 rfl
def AZ:List AV:=[I 0,I 0,I 0,I 0,I 0,I 0,I 0]
def RegT(E:Int)(rl rs:Nat)(px:List Px)(f:Aff)(fit:List Mp)(v:AV):Prop:=
 (E≠0/\v=.tup [.agg [I 0,I 0,nilS],.agg AZ,nilS,I E])\/(E=0/\∃c p,Sl pxE c px/\Pts p fit/\v=.tup [.agg [I rl,I rs,c],.agg f.c,p,I 0])
theorem b_reg0(d:Nat)(hb:Sl pxE b D2)(hR2:RtI L2 S2 D2){k:Int}(hk:wi k 0 2=true){rl rs:Nat}(hrl:rl<=64)(hrs:rs<=64){fit:List Mp}(hfi:xod fit)(hfl:fit.length<=30){t4:AV}{v:AV}{m:Mem}{fc:Nat}(g3:m.get (0,0,3)=some (.row [I rl,I rs,a,I L2,I S2,b] 0 false))(g6:m.get (0,2,6)=some (.row [I 0,I 0,nilS] 0 false))(g7:m.get (0,3,7)=some (.row AZ 0 false))(hn:m.next=1)(hG:Gk 5 Mp.c (okR 49) m v fit) :
 RetF (RegT (if rkM fit<3 then 30 else 0) rl rs (allR L2 S2 D2 k (fitM fit) rs 0 rl) (fitM fit) fit) (x5z (xnt (d+6)) [] 0 (I k) (.ptr (0,0,3) 0 0) (.ptr (0,2,6) 0 0) (.ptr (0,3,7) 0 0) v m fc):=by
 obtain⟨m1,e1,n1,f1,G1⟩:=thaw5 (t:=49) (call:=xnt (d+6)) (f:=x2e) (r:=I (rkM fit)) hG.toF5 (λa' ha' m=>w_rank3 (d+4) ha' (by omega) hfi m)
 unfold x5z
 simp only[e1,xnz,xou]
 have q6:m1.get (0,2,6)=some (.row [I 0,I 0,nilS] 0 false):=by rw[f1 _ (by simp[okR])];exact g6
 have q7:m1.get (0,3,7)=some (.row AZ 0 false):=by rw[f1 _ (by simp[okR])];exact g7
 have q3:m1.get (0,0,3)=some (.row [I rl,I rs,a,I L2,I S2,b] 0 false):=by rw[f1 _ (by simp[okR])];exact g3
 by_cases c:rkM fit<3
 .have b1:xo5 xe []=some (.agg [I 0,I 0,nilS]):=by rw[xq5];rfl
  have b2:xo5 xq []=some (.agg AZ):=by rw[xqt];rfl
  simp only[c,x19d,xot,b1,b2,xnz,x19o]
  obtain⟨M,hM⟩:∃M:Mem,M=(m1.set (0,2,6) (.row [I 0,I 0,nilS] 0 false)).set (0,3,7) (.row AZ 0 false):=⟨_,rfl⟩
  have S1:∀{R:Type} (K:Mem->Option R),sSt 3 (.ptr (0,2,6) 0 0) (.agg [I 0,I 0,nilS]) m1 K=K (m1.set (0,2,6) (.row [I 0,I 0,nilS] 0 false)):=λK=>by
   rw[xqb (off:=0) (z:=3) (x:=.agg [I 0,I 0,nilS]) (k:=K) q6 rfl (by simp) rfl];rfl
  have q7':(m1.set (0,2,6) (.row [I 0,I 0,nilS] 0 false)).get (0,3,7)=some (.row AZ 0 false):=by rw[Mem.get_set_ne (by simp)];exact q7
  have S2:∀{R:Type} (K:Mem->Option R),sSt 7 (.ptr (0,3,7) 0 0) (.agg AZ) (m1.set (0,2,6) (.row [I 0,I 0,nilS] 0 false)) K=K M:=λK=>by
   rw[xqb (off:=0) (z:=7) (x:=.agg AZ) (k:=K) q7' rfl (by simp[AZ]) rfl,hM];rfl
  have p6:M.get (0,2,6)=some (.row [I 0,I 0,nilS] 0 false):=by rw[hM,Mem.get_set_ne (by simp),Mem.get_set_same]
  have p7:M.get (0,3,7)=some (.row AZ 0 false):=by rw[hM,Mem.get_set_same]
  have l6:sLdP true 3 (.ptr (0,2,6) 0 0) M=some (.agg [I 0,I 0,nilS]):=by show sLd true 3 (.ptr (0,2,6) 0 0) M=_;rw[xov p6];rfl
  have l7:sLdP true 7 (.ptr (0,3,7) 0 0) M=some (.agg AZ):=by show sLd true 7 (.ptr (0,3,7) 0 0) M=_;rw[xov p7];rfl
  simp only[S1,S2,l6,l7,xnz]
  exact RetF.tup rfl (.inl ⟨by decide,rfl⟩)
 have hrk:rkM fit=3:=by have:=rkM_le fit;omega
 have hD:=rk_det hrk
 obtain⟨m2,e2,n2,f2,G2⟩:=thaw5 (t:=49) (call:=xnt (d+6)) (f:=x2f) (r:=.agg (fitM fit).c) G1 (λa' ha' m=>w_fit3 (d+3) ha' hfl hfi hD m)
 have hA:=x148 hfi hfl hD
 obtain⟨w,hw,hre⟩:=x163 (d+1) hb hR2 hk hA hrl hrs
 have u3:m2.get (0,0,3)=some (.row [I rl,I rs,a,I L2,I S2,b] 0 false):=by rw[f2 _ (by simp[okR])];exact q3
 have u6:m2.get (0,2,6)=some (.row [I 0,I 0,nilS] 0 false):=by rw[f2 _ (by simp[okR])];exact q6
 have u7:m2.get (0,3,7)=some (.row AZ 0 false):=by rw[f2 _ (by simp[okR])];exact q7
 generalize hfm:fitM fit=F at *
 obtain⟨M3,hM3⟩:∃M3:Mem,M3=(m2.new (0,fc+5,15) (.row AZ 0 false)).set (0,fc+5,15) (.row F.c 0 false):=⟨_,rfl⟩
 have S3:∀{R:Type} (K:Mem->Option R),sSt 7 (.ptr (0,fc+5,15) 0 0) (.agg F.c) (m2.new (0,fc+5,15) (.row xq 0 false)) K=K M3:=λK=>by
  rw[xqt]
  rw[xqb (cs:=AZ) (off:=0) (z:=7) (x:=.agg F.c) (k:=K) (by rw[Mem.get_new_same];rfl) rfl (by simp[AZ]) rfl,hM3];rfl
 have o3:∀j:Id,j≠(0,fc+5,15)->M3.get j=m2.get j:=λj hj=>by rw[hM3,Mem.get_set_ne hj,Mem.get_new_ne hj]
 have v15:M3.get (0,fc+5,15)=some (.row F.c 0 false):=by rw[hM3,Mem.get_set_same]
 have v3:M3.get (0,0,3)=some (.row [I rl,I rs,a,I L2,I S2,b] 0 false):=(o3 _ (by simp)).trans u3
 have v6:M3.get (0,2,6)=some (.row [I 0,I 0,nilS] 0 false):=(o3 _ (by simp)).trans u6
 have v7:M3.get (0,3,7)=some (.row AZ 0 false):=(o3 _ (by simp)).trans u7
 have n3:M3.next=1:=by rw[hM3];show m2.next=1;rw[n2,n1,hn]
 have a1:sFA 3 (.ptr (0,0,3) 0 0)=some (.ptr (0,0,3) 0 3):=rfl
 have a2:sLd true 3 (.ptr (0,0,3) 0 3) M3=some (.agg [I L2,I S2,b]):=by rw[xov v3];rfl
 have a3:sFA 0 (.ptr (0,0,3) 0 0)=some (.ptr (0,0,3) 0 0):=rfl
 have a4:sLd false 1 (.ptr (0,0,3) 0 0) M3=some (I rl):=by rw[xov v3];rfl
 have a5:sFA 1 (.ptr (0,0,3) 0 0)=some (.ptr (0,0,3) 0 1):=rfl
 have a6:sLd false 1 (.ptr (0,0,3) 0 1) M3=some (I rs):=by rw[xov v3];rfl
 have a7:sLd true 7 (.ptr (0,fc+5,15) 0 0) M3=some (.agg F.c):=by rw[xov v15];rfl
 have a8:xo5 x4n [(0,1,I k),(1,1,I rl),(2,1,I rs),(3,7,.agg F.c)]=some (.agg ([I k,I rl,I rs]++F.c)):=by
  rw[show x4n=[I 0,I 0,I 0,I 0,I 0,I 0,I 0,I 0,I 0,I 0] by kernel_rfl];rfl
 have hre':∀m,xnu (xnt (d+6)) x2g [.agg [I L2,I S2,b],.agg ([I k,I rl,I rs]++F.c)] m=some (.agg [I rl,I rs,w],m):=hre
 obtain⟨M4,hM4⟩:∃M4:Mem,M4=M3.set (0,2,6) (.row [I rl,I rs,w] 0 false):=⟨_,rfl⟩
 obtain⟨M5,hM5⟩:∃M5:Mem,M5=M4.set (0,3,7) (.row F.c 0 false):=⟨_,rfl⟩
 have hwo:w.one=true:=hw.one
 have S4:∀{R:Type} (K:Mem->Option R),sSt 3 (.ptr (0,2,6) 0 0) (.agg [I rl,I rs,w]) M3 K=K M4:=λK=>by
  rw[xqb (off:=0) (z:=3) (x:=.agg [I rl,I rs,w]) (k:=K) v6 rfl (by simp) (by rw[xud];simp[hwo]),hM4];rfl
 have S5:∀{R:Type} (K:Mem->Option R),sSt 7 (.ptr (0,3,7) 0 0) (.agg F.c) M4 K=K M5:=λK=>by
  rw[xqb (cs:=AZ) (off:=0) (z:=7) (x:=.agg F.c) (k:=K) (by rw[hM4,Mem.get_set_ne (by simp)];exact v7) rfl (by simp[AZ]) rfl,hM5];rfl
 have p6:M5.get (0,2,6)=some (.row [I rl,I rs,w] 0 false):=by rw[hM5,Mem.get_set_ne (by simp),hM4,Mem.get_set_same]
 have p7:M5.get (0,3,7)=some (.row F.c 0 false):=by rw[hM5,Mem.get_set_same]
 have l6:sLdP true 3 (.ptr (0,2,6) 0 0) M5=some (.agg [I rl,I rs,w]):=by show sLd true 3 (.ptr (0,2,6) 0 0) M5=_;rw[xov p6];rfl
 have l7:sLdP true 7 (.ptr (0,3,7) 0 0) M5=some (.agg F.c):=by show sLd true 7 (.ptr (0,3,7) 0 0) M5=_;rw[xov p7];rfl
 have hcl:clean1 b=true:=by rcases hb with ⟨rfl,-⟩|⟨y,rfl⟩<;>rfl
 have hmk:mkM 0 [.agg [I L2,I S2,b],.agg ([I k,I rl,I rs]++F.c)]=2:=by unfold mkM;simp[clean,hcl,Aff.c]
 have hap:((Nat.ble 1 2&&true)&&(cAp (some M3.next) (tR (.ptr (0,fc+5,15) 0 0)) 2&&(xoa (tR (.ptr (0,fc+5,15) 0 0)) (tS (.ptr (0,2,6) 0 0))&&true)))=true:=by
  rw[n3];simp[cAp,tR,tS,xoa,disj,Nat.blt]
 simp only[c,x1a8,xpj,e2,xnz,x19l,xww,S3,a1,a2,x13q,a3,a4,a5,a6,a7,a8,hre',S4,S5,hmk,hap,xqc,l6,l7]
 obtain⟨p,hp,hz⟩:=(G2.frame (m':=M5) (λid hid=>by rw[hM5,Mem.get_set_ne (by rintro rfl;simp[okR]at hid),hM4,Mem.get_set_ne (by rintro rfl;simp[okR]at hid),o3 _ (by rintro rfl;simp[okR]at hid)])).frz (k:=3)
 have z1:Go.Ix.frz M5.get 5 (.agg [I rl,I rs,w])=some (.agg [I rl,I rs,w]):=xsb _ 3 (by simp[still,hw.still1])
 have z2:Go.Ix.frz M5.get 5 (.agg F.c)=some (.agg F.c):=xsb _ 3 rfl
 exact RetF.mk (frz_tup43 z1 z2 hz frz_I) (.inr ⟨rfl,w,p,hw,hp,rfl⟩)
end Go.Ix
namespace Go.Ix
open Go.Proofs
variable{L S L2 S2:Int}{D D2:List Px}{l:List Mp}{a b:AV}
theorem x10b(call:xnv){t2 t3 t4 t10:AV}{e:Int}(he:e≠0){rl rs:Nat}{px:List Px}{f:Aff}{fit:List Mp}{m:Mem}{fc:Nat}(g6:m.get (0,2,6)=some (.row [I 0,I 0,nilS] 0 false))(g7:m.get (0,3,7)=some (.row AZ 0 false)) :
 RetF (RegT e rl rs px f fit) (x4p call [] 0 t2 t3 t4 (.ptr (0,2,6) 0 0) (.ptr (0,3,7) 0 0) t10 (I e) m fc):=by
 have b1:xo5 xe []=some (.agg [I 0,I 0,nilS]):=by rw[xq5];rfl
 have b2:xo5 xq []=some (.agg AZ):=by rw[xqt];rfl
 obtain⟨M,hM⟩:∃M:Mem,M=(m.set (0,2,6) (.row [I 0,I 0,nilS] 0 false)).set (0,3,7) (.row AZ 0 false):=⟨_,rfl⟩
 have S1:∀{R:Type} (K:Mem->Option R),sSt 3 (.ptr (0,2,6) 0 0) (.agg [I 0,I 0,nilS]) m K=K (m.set (0,2,6) (.row [I 0,I 0,nilS] 0 false)):=λK=>by
  rw[xqb (off:=0) (z:=3) (x:=.agg [I 0,I 0,nilS]) (k:=K) g6 rfl (by simp) rfl];rfl
 have q7':(m.set (0,2,6) (.row [I 0,I 0,nilS] 0 false)).get (0,3,7)=some (.row AZ 0 false):=by rw[Mem.get_set_ne (by simp)];exact g7
 have S2:∀{R:Type} (K:Mem->Option R),sSt 7 (.ptr (0,3,7) 0 0) (.agg AZ) (m.set (0,2,6) (.row [I 0,I 0,nilS] 0 false)) K=K M:=λK=>by
  rw[xqb (off:=0) (z:=7) (x:=.agg AZ) (k:=K) q7' rfl (by simp[AZ]) rfl,hM];rfl
 have p6:M.get (0,2,6)=some (.row [I 0,I 0,nilS] 0 false):=by rw[hM,Mem.get_set_ne (by simp),Mem.get_set_same]
 have p7:M.get (0,3,7)=some (.row AZ 0 false):=by rw[hM,Mem.get_set_same]
 have l6:sLdP true 3 (.ptr (0,2,6) 0 0) M=some (.agg [I 0,I 0,nilS]):=by show sLd true 3 (.ptr (0,2,6) 0 0) M=_;rw[xov p6];rfl
 have l7:sLdP true 7 (.ptr (0,3,7) 0 0) M=some (.agg AZ):=by show sLd true 7 (.ptr (0,3,7) 0 0) M=_;rw[xov p7];rfl
 unfold x4p
 simp only[sNe_I,he,x1a8,x1ar,xnz,xot,b1,b2,S1,S2,l6,l7]
 exact RetF.tup rfl (.inl ⟨he,rfl⟩)
noncomputable def regF(L S:Int)(D:List Px)(L2 S2:Int)(D2:List Px)(z w st:Nat)(r lst t:Int):List Mp:=
 (ptsM L S D L2 S2 D2 z w r lst (xos L S z w st)).filter (xpl (ptsM L S D L2 S2 D2 z w r lst (xos L S z w st)) t)
noncomputable def regE(L S:Int)(D:List Px)(L2 S2:Int)(D2:List Px)(z w st:Nat)(r lst t k:Int):Int:=
 if 30<(xos L S z w st).length then 8 else if wi k 0 2=false then 15 else if rkM (regF L S D L2 S2 D2 z w st r lst t)<3 then 30 else 0
theorem x16b(d:Nat)(ha:Sl pxE a D)(hl:D.length<=5000)(hb:Sl pxE b D2)(hl2:D2.length<=5000){z w st:Nat}{r lst t k:Int}(he:ptE L S D L2 S2 D2 z w st r lst t=0){rl rs:Nat}(hL:L=rl)(hS:S=rs) :
 RetF (RegT (regE L S D L2 S2 D2 z w st r lst t k) rl rs (allR L2 S2 D2 k (fitM (regF L S D L2 S2 D2 z w st r lst t)) rs 0 rl) (fitM (regF L S D L2 S2 D2 z w st r lst t)) (regF L S D L2 S2 D2 z w st r lst t))
  (xnt (d+11) [] x27 [.agg [I L,I S,a,I L2,I S2,b],.agg [I z,I w,I st,I r,I lst,I t],I k] mem0):=by
 obtain⟨cp,ck⟩:=ptE_0 he
 have hR:=xtv (xtx cp).1
 have hR2:=xtv (xtx cp).2
 obtain⟨hz,hw,hst,hr,-⟩:=xuv ck
 obtain⟨x,hx,hoff⟩:=w_OffO (L:=L) (S:=S) (L2:=L2) (S2:=S2) d ha hl hb hl2 he
 have hLw:=wi_t hR.l
 have hSw:=wi_t hR.s
 rw[xi2]
 unfold x7r x61
 have ho:(AV.agg [I L,I S,a,I L2,I S2,b]).cells.all AV.one=true:=by rw[xud];simp[ha.one,hb.one]
 have ho2:(AV.agg [I z,I w,I st,I r,I lst,I t]).cells.all AV.one=true:=rfl
 simp only[mem0,xx0,ho,ho2,xqc,xww,xq5,xqt]
 have e1:(0:Nat)+1=1:=rfl
 have e2:(0:Nat)+2=2:=rfl
 have e3:(0:Nat)+3=3:=rfl
 rw[e1,e2,e3]
 generalize hm0:Mem.new (Mem.new _ _ _) _ _=m0
 have g3:m0.get (0,0,3)=some (.row [I L,I S,a,I L2,I S2,b] 0 false):=by rw[<-hm0];simp
 have g4:m0.get (0,1,4)=some (.row [I z,I w,I st,I r,I lst,I t] 0 false):=by rw[<-hm0];simp
 have g6:m0.get (0,2,6)=some (.row [I 0,I 0,nilS] 0 false):=by rw[<-hm0];simp
 have g7:m0.get (0,3,7)=some (.row AZ 0 false):=by rw[<-hm0];simp;rfl
 have hn:m0.next=1:=by rw[<-hm0];rfl
 have l3:sLd true 6 (.ptr (0,0,3) 0 0) m0=some (.agg [I L,I S,a,I L2,I S2,b]):=by rw[xov g3];rfl
 have l4:sLd true 6 (.ptr (0,1,4) 0 0) m0=some (.agg [I z,I w,I st,I r,I lst,I t]):=by rw[xov g4];rfl
 have x0:∀(a:AV) (e:Int),sExt (.tup [a,I e]) 0=some a:=λ_ _=>rfl
 have x1:∀(a:AV) (e:Int),sExt (.tup [a,I e]) 1=some (I e):=λ_ _=>rfl
 simp only[l3,l4,xnz,hoff,x0,x1]
 unfold x83
 have hker:∀m,xnu (xnt (d+10)) x2c [I k] m=some (B (wi k 0 2),m):=λm=>x15x (d+8) k m
 by_cases c1:30<(xos L S z w st).length
 .have hE:regE L S D L2 S2 D2 z w st r lst t k=8:=by unfold regE;rw[if_pos c1]
  rw[hE]
  simp only[c1,x19o,sEq_I,show decide ((8:Int)=0)=false from rfl,xnz,xwx,xwy,xwz,sW_t,xrs,xwt,xpj]
  exact x10b _ (by decide) g6 g7
 rw[if_neg c1]at hx
 simp only[c1,x19l,sEq_I,x19d,xnz,xwx,xwy,xwz,sW_t,xqc,hker,sNot_B,xwt]
 cases c2:wi k 0 2
 .have hE:regE L S D L2 S2 D2 z w st r lst t k=15:=by unfold regE;rw[if_neg c1,if_pos c2]
  rw[hE]
  simp only[x1ar,xot]
  exact x10b _ (by decide) g6 g7
 have hE:regE L S D L2 S2 D2 z w st r lst t k=if rkM (regF L S D L2 S2 D2 z w st r lst t)<3 then 30 else 0:=by unfold regE;rw[if_neg c1,if_neg (by simp[c2])]
 rw[hE]
 simp only[x1bl,xpj]
 unfold x4p
 simp only[sNe_I,x19d,x1bl,xnz,xpj]
 unfold xf5
 have hin:=pts_in (L:=L) (S:=S) (D:=D) (L2:=L2) (S2:=S2) (D2:=D2) (z:=z) (w:=w) (st:=st) (R:=r) (lst:=lst) hLw.2 hSw.2 (by omega) (by omega) hr
 have hpl:=xy1 (L:=L) (S:=S) (D:=D) (L2:=L2) (S2:=S2) (D2:=D2) (z:=z) (w:=w) (R:=r) (lst:=lst) (xos L S z w st)
 have hM:=MED_30
 unfold regF
 generalize ptsM L S D L2 S2 D2 z w r lst (xos L S z w st)=P at *
 obtain⟨y,hy,hkp⟩:=w_kept (d+3) hx (by omega) hin t m0
 have a1:sFA 5 (.ptr (0,1,4) 0 0)=some (.ptr (0,1,4) 0 5):=rfl
 have a2:sLd false 1 (.ptr (0,1,4) 0 5) m0=some (I t):=by rw[xov g4];rfl
 have hkp':xnu (xnt (d+10)) x2d [x,I t] m0=some (y,m0):=hkp
 simp only[a1,a2,xnz,hkp',hy.len xx2]
 have hkl:=xzq (xpl P t) P 0
 have hsel:=x109 (l:=P) (xpl P t) P 0 rfl
 have hfl:(P.filter (xpl P t)).length<=30:=x19s (x1dt _ _) (by omega)
 refine l_reg (xnt (d+10)) [] hy hx (by omega) (x10a (xpl P t) P 0 rfl) m0 _ (λv m fc hG hn' hf=>?_) (xpr (xpl P t) 0 P) 0 NN nilS [] m0 _ rfl (by rw[xo8];omega) (x196 _) rfl Gk.nil rfl (λ_ _=>rfl)
 rw[hsel]at hG
 subst hL hS
 exact b_reg0 (d+4) hb hR2 c2 (by omega) (by omega) (λp hp=>hin p (x19n.mp hp).1) hfl (t4:=.ptr (0,1,4) 0 0) ((hf _ (by simp[okR])).trans g3) ((hf _ (by simp[okR])).trans g6) ((hf _ (by simp[okR])).trans g7) (hn'.trans hn) hG
theorem x16c(d:Nat)(ha:Sl pxE a D)(hl:D.length<=5000)(hb:Sl pxE b D2)(hl2:D2.length<=5000)(z w s r lst t k:Int)(he:ptE L S D L2 S2 D2 z w s r lst t≠0){rl rs:Nat}{px:List Px}{f:Aff}{fit:List Mp} :
 RetF (RegT (ptE L S D L2 S2 D2 z w s r lst t) rl rs px f fit) (xnt (d+11) [] x27 [.agg [I L,I S,a,I L2,I S2,b],.agg [I z,I w,I s,I r,I lst,I t],I k] mem0):=by
 have hoff:=λm=>w_OffE (L:=L) (S:=S) (L2:=L2) (S2:=S2) d ha hl hb hl2 z w s r lst t he m
 rw[xi2]
 unfold x7r x61
 have ho:(AV.agg [I L,I S,a,I L2,I S2,b]).cells.all AV.one=true:=by rw[xud];simp[ha.one,hb.one]
 have ho2:(AV.agg [I z,I w,I s,I r,I lst,I t]).cells.all AV.one=true:=rfl
 simp only[mem0,xx0,ho,ho2,xqc,xww,xq5,xqt]
 have e1:(0:Nat)+1=1:=rfl
 have e2:(0:Nat)+2=2:=rfl
 have e3:(0:Nat)+3=3:=rfl
 rw[e1,e2,e3]
 generalize hm0:Mem.new (Mem.new _ _ _) _ _=m0
 have g3:m0.get (0,0,3)=some (.row [I L,I S,a,I L2,I S2,b] 0 false):=by rw[<-hm0];simp
 have g4:m0.get (0,1,4)=some (.row [I z,I w,I s,I r,I lst,I t] 0 false):=by rw[<-hm0];simp
 have g6:m0.get (0,2,6)=some (.row [I 0,I 0,nilS] 0 false):=by rw[<-hm0];simp
 have g7:m0.get (0,3,7)=some (.row AZ 0 false):=by rw[<-hm0];simp;rfl
 have l3:sLd true 6 (.ptr (0,0,3) 0 0) m0=some (.agg [I L,I S,a,I L2,I S2,b]):=by rw[xov g3];rfl
 have l4:sLd true 6 (.ptr (0,1,4) 0 0) m0=some (.agg [I z,I w,I s,I r,I lst,I t]):=by rw[xov g4];rfl
 have x0:∀(a:AV) (e:Int),sExt (.tup [a,I e]) 0=some a:=λ_ _=>rfl
 have x1:∀(a:AV) (e:Int),sExt (.tup [a,I e]) 1=some (I e):=λ_ _=>rfl
 simp only[l3,l4,xnz,hoff,x0,x1]
 unfold x83
 simp only[sEq_I,he,x1a8,xnz,xwx,xwy,xwz,sW_t,xrs,xwt,xpj]
 exact x10b _ he g6 g7
end Go.Ix
namespace Go.Ix
open Go.Proofs
variable{L S L2 S2:Int}{D D2:List Px}{l:List Mp}{a b:AV}
def RC(v:AV):List AV:=[I 0,I 0,nilS,I 0,I 0,I 0,I 0,I 0,I 0,I 0,v]
theorem l_regR(call:xnv)(hs:FHs){x t2 t3 t6:AV}{ks:List Int}(hk:Ints x ks)(ha:Pts a l)(hks:ks.length<=1000)(hin:∀i∈ks,0<=i/\i<l.length)(m0:Mem)(Q:O2->Prop)(hok:∀v m fc,Gk 5 Mp.c (okR 47) m v (selP l ks)->m.get (0,17,10)=some (.row (RC v) 0 false)->m.next=m0.next->(∀j,¬okR 47 j->j≠(0,17,10)->m.get j=m0.get j)->Q (x35 call hs 0 t2 t3 t6 (.ptr (0,17,10) 0 0) m fc)) :
 ∀(suf:List Int) (k j:Nat) (v:AV) (acc:List Mp) (m:Mem) (fc:Nat),ks.drop k=suf->suf.length<j->acc.length<=k->acc++selP l suf=selP l ks->Gk 5 Mp.c (okR 47) m v acc->m.get (0,17,10)=some (.row (RC v) 0 false)->m.next=m0.next->(∀j,¬okR 47 j->j≠(0,17,10)->m.get j=m0.get j) ->
 Q (x4q call hs 0 j t2 t3 t6 a (.ptr (0,17,10) 0 0) x (I k) m fc):=by
 intro suf
 induction suf with
 |nil=>
  intro k j v acc m fc hd hj hac hsel hG hg hn hf
  obtain⟨j,rfl⟩:∃i,j=i+1:=⟨j-1,by simp at hj;omega⟩
  have hk':¬((k:Int)<(ks.length:Int)):=by have:=x19k.mp hd;omega
  rw[selP,x1b9]at hsel
  simp only[x4q]
  unfold x86
  simp only[hk.len xx2,xou,hk',x1a8,xnz,xpj]
  exact hok v m _ (hsel▸hG) hg hn hf
 |cons e r ih=>
  intro k j v acc m fc hd hj hac hsel hG hg hn hf
  obtain⟨j,rfl⟩:∃i,j=i+1:=⟨j-1,by simp at hj;omega⟩
  obtain⟨hkl,he,hd1⟩:=xpe hd
  have hk':(k:Int)<(ks.length:Int):=by omega
  have ix:=hk.ix xtk hkl
  have ld:∀m,sLd false 1 (.plit ((ks.drop k).flatMap intE)) m=some (I e):=λm=>by rw[xp2 hkl,x19b,he];rfl
  obtain⟨i,rfl,hi⟩:∃i:Nat,e=i/\i<l.length:=by
   have:=hin e (he▸x19j hkl)
   exact⟨e.toNat,by omega,by omega⟩
  have ixp:=ha.ix Mp.len hi
  have ldp:=λm=>xtj (m:=m) Mp.len (by omega) hi
  have hw:w64 ((k:Int)+1)=((k+1:Nat):Int):=by rw[xnx (by omega) (by omega)];omega
  obtain⟨v1,m1,A,G1,c1,c2,n1,f1⟩:=hG.app (bytes:=40) (id0:=(0,fc+14,47)) Mp.len (by omega) ⟨rfl,rfl⟩ (by unfold xol;omega) l[i]
  have hlit:∀(m:Mem) (K:AV->Mem->O2),xp1 xr [(0,5,.agg (Mp.c l[i]))] 1 5 (0,fc+13,46) m K=K (.slit (Mp.c l[i]) 1 true) m:=λm K=>by rw[z_mpt];exact xy0
  have hel:∀M:Mem,elems M.get 5 (.slit (Mp.c l[i]) 1 true)=some (Mp.c l[i],1):=λ_=>rfl
  have hsi:selP l ((i:Int)::r)=l[i]::selP l r:=by
   rw[selP,x1ax,x19g hi];rfl
  have a1:sFA 10 (.ptr (0,17,10) 0 0)=some (.ptr (0,17,10) 0 10):=rfl
  have a2:sLd false 1 (.ptr (0,17,10) 0 10) m=some v:=by rw[xov hg];rfl
  have hg1:m1.get (0,17,10)=some (.row (RC v) 0 false):=by rw[f1 _ (by simp[okR])];exact hg
  have S1:∀{R:Type} (K:Mem->Option R),sSt 1 (.ptr (0,17,10) 0 10) v1 m1 K=K (m1.set (0,17,10) (.row (RC v1) 0 false)):=λK=>by
   rw[xqb (off:=10) (z:=1) (x:=v1) (k:=K) hg1 (by rw[c1];rfl) (by simp[RC]) (by rw[c1];simp[c2]),c1];rfl
  have hap:(xoa (tR (.ptr (0,17,10) 0 10)) (some [],some [(0,fc+13,46)])&&true)=true:=by simp[xoa,tR,disj]
  simp only[x4q]
  unfold x86
  simp only[hk.len xx2,xou,hk',x19d,xnz,xot,a1,a2,ix,ld,ixp,ldp,hlit,hel,A,S1,hap,xqc,xws,hw]
  exact ih (k+1) j v1 (acc++[l[i]]) _ _ hd1 (by simp at hj;omega) (by simp;omega) (by rw[<-hsel,hsi,x1ao];rfl) (G1.frame λid hid=>Mem.get_set_ne (by rintro rfl;simp[okR]at hid)) (by rw[Mem.get_set_same]) (n1.trans hn) (λj hj hj2=>(Mem.get_set_ne hj2).trans ((f1 j hj).trans (hf j hj hj2)))
end Go.Ix
namespace Go.Ix
open Go.Proofs
variable{L S L2 S2:Int}{D D2:List Px}{l:List Mp}{a b:AV}
def RrgT(E:Int)(rl rs:Nat)(px:List Px)(f:Aff)(fit:List Mp)(v:AV):Prop:=
 (E≠0/\v=.tup [.agg (RC nilS),I E])\/(E=0/\∃c p,Sl pxE c px/\Pts p fit/\v=.tup [.agg ([I rl,I rs,c]++f.c++[p]),I 0])
theorem z_rc:x1r=RC nilS:=by kernel_rfl
theorem b_rreg0e(d:Nat){t2 t3:AV}{fit:List Mp}(hfi:xod fit)(hfl:fit.length<=30)(hc:rkM fit<3){rl rs:Nat}{px:List Px}{f:Aff}{v:AV}{m:Mem}{fc:Nat}(g6:m.get (0,2,6)=some (.row (RC nilS) 0 false))(g10:m.get (0,17,10)=some (.row (RC v) 0 false))(hG:Gk 5 Mp.c (okR 47) m v fit) :
 RetF (RrgT 30 rl rs px f fit) (x35 (xnt (d+6)) [] 0 t2 t3 (.ptr (0,2,6) 0 0) (.ptr (0,17,10) 0 0) m fc):=by
 obtain⟨m1,e1,n1,f1,G1⟩:=thaw5 (t:=47) (call:=xnt (d+6)) (f:=x1h) (r:=I (rkM fit)) hG.toF5 (λa' ha' m=>x13h (d+5) ha' (by omega) hfi m)
 have a1:sFA 10 (.ptr (0,17,10) 0 0)=some (.ptr (0,17,10) 0 10):=rfl
 have a2:sLd false 1 (.ptr (0,17,10) 0 10) m=some v:=by rw[xov g10];rfl
 have q6:m1.get (0,2,6)=some (.row (RC nilS) 0 false):=by rw[f1 _ (by simp[okR])];exact g6
 have b1:xo5 x1r []=some (.agg (RC nilS)):=by rw[z_rc];rfl
 obtain⟨M,hM⟩:∃M:Mem,M=m1.set (0,2,6) (.row (RC nilS) 0 false):=⟨_,rfl⟩
 have S1:∀{R:Type} (K:Mem->Option R),sSt 11 (.ptr (0,2,6) 0 0) (.agg (RC nilS)) m1 K=K M:=λK=>by
  rw[xqb (off:=0) (z:=11) (x:=.agg (RC nilS)) (k:=K) q6 rfl (by simp[RC]) rfl,hM];rfl
 have p6:M.get (0,2,6)=some (.row (RC nilS) 0 false):=by rw[hM,Mem.get_set_same]
 have l6:sLdP true 11 (.ptr (0,2,6) 0 0) M=some (.agg (RC nilS)):=by show sLd true 11 (.ptr (0,2,6) 0 0) M=_;rw[xov p6];rfl
 unfold x35
 simp only[a1,a2,e1,xnz,xou,hc,x19d,xot,b1,S1,l6]
 exact RetF.tup rfl (.inl ⟨by decide,rfl⟩)
theorem b_rreg0(d:Nat)(hb:Sl pxE b D2)(hR2:RtI L2 S2 D2){k:Int}(hk:wi k 0 2=true){rl rs:Nat}(hrl:rl<=64)(hrs:rs<=64){fit:List Mp}(hfi:xod fit)(hfl:fit.length<=30)(hc:¬rkM fit<3){v:AV}{m:Mem}{fc:Nat}(g3:m.get (0,0,3)=some (.row [I rl,I rs,a,I L2,I S2,b] 0 false))(g6:m.get (0,2,6)=some (.row (RC nilS) 0 false))(g10:m.get (0,17,10)=some (.row (RC v) 0 false))(hG:Gk 5 Mp.c (okR 47) m v fit)(hvo:v.one=true/\v.cells=[v]) :
 RetF (RrgT 0 rl rs (allR L2 S2 D2 k (fitM fit) rs 0 rl) (fitM fit) fit) (x35 (xnt (d+6)) [] 0 (I k) (.ptr (0,0,3) 0 0) (.ptr (0,2,6) 0 0) (.ptr (0,17,10) 0 0) m fc):=by
 obtain⟨m1,e1,n1,f1,G1⟩:=thaw5 (t:=47) (call:=xnt (d+6)) (f:=x1h) (r:=I (rkM fit)) hG.toF5 (λa' ha' m=>x13h (d+5) ha' (by omega) hfi m)
 have hrk:rkM fit=3:=by have:=rkM_le fit;omega
 have hD:=rk_det hrk
 obtain⟨m2,e2,n2,f2,G2⟩:=thaw5 (t:=47) (call:=xnt (d+6)) (f:=x2k) (r:=.agg (fitM fit).c) G1 (λa' ha' m=>w_rFit (d+3) ha' hfl hfi hD m)
 have hA:=x148 hfi hfl hD
 obtain⟨w,hw,hre⟩:=x16a (d+1) hb hR2 hk hA hrl hrs
 generalize hfm:fitM fit=F at *
 have a1:sFA 10 (.ptr (0,17,10) 0 0)=some (.ptr (0,17,10) 0 10):=rfl
 have a2:sLd false 1 (.ptr (0,17,10) 0 10) m=some v:=by rw[xov g10];rfl
 have t10:m1.get (0,17,10)=some (.row (RC v) 0 false):=by rw[f1 _ (by simp[okR])];exact g10
 have u10:m2.get (0,17,10)=some (.row (RC v) 0 false):=by rw[f2 _ (by simp[okR])];exact t10
 have u3:m2.get (0,0,3)=some (.row [I rl,I rs,a,I L2,I S2,b] 0 false):=by rw[f2 _ (by simp[okR]),f1 _ (by simp[okR])];exact g3
 have u6:m2.get (0,2,6)=some (.row (RC nilS) 0 false):=by rw[f2 _ (by simp[okR]),f1 _ (by simp[okR])];exact g6
 have a3:sLd false 1 (.ptr (0,17,10) 0 10) m1=some v:=by rw[xov t10];rfl
 have a4:sFA 3 (.ptr (0,17,10) 0 0)=some (.ptr (0,17,10) 0 3):=rfl
 obtain⟨M3,hM3⟩:∃M3:Mem,M3=m2.set (0,17,10) (.row ([I 0,I 0,nilS]++F.c++[v]) 0 false):=⟨_,rfl⟩
 have S3:∀{R:Type} (K:Mem->Option R),sSt 7 (.ptr (0,17,10) 0 3) (.agg F.c) m2 K=K M3:=λK=>by
  rw[xqb (off:=3) (z:=7) (x:=.agg F.c) (k:=K) u10 rfl (by simp[RC]) rfl,hM3];rfl
 have v10:M3.get (0,17,10)=some (.row ([I 0,I 0,nilS]++F.c++[v]) 0 false):=by rw[hM3,Mem.get_set_same]
 have v3:M3.get (0,0,3)=some (.row [I rl,I rs,a,I L2,I S2,b] 0 false):=by rw[hM3,Mem.get_set_ne (by simp)];exact u3
 have v6:M3.get (0,2,6)=some (.row (RC nilS) 0 false):=by rw[hM3,Mem.get_set_ne (by simp)];exact u6
 have c1:sFA 3 (.ptr (0,0,3) 0 0)=some (.ptr (0,0,3) 0 3):=rfl
 have c2:sLd true 3 (.ptr (0,0,3) 0 3) M3=some (.agg [I L2,I S2,b]):=by rw[xov v3];rfl
 have c3:sFA 0 (.ptr (0,0,3) 0 0)=some (.ptr (0,0,3) 0 0):=rfl
 have c4:sLd false 1 (.ptr (0,0,3) 0 0) M3=some (I rl):=by rw[xov v3];rfl
 have c5:sFA 1 (.ptr (0,0,3) 0 0)=some (.ptr (0,0,3) 0 1):=rfl
 have c6:sLd false 1 (.ptr (0,0,3) 0 1) M3=some (I rs):=by rw[xov v3];rfl
 have c7:sLd true 7 (.ptr (0,17,10) 0 3) M3=some (.agg F.c):=by rw[xov v10];rfl
 have c8:xo5 x4n [(0,1,I k),(1,1,I rl),(2,1,I rs),(3,7,.agg F.c)]=some (.agg ([I k,I rl,I rs]++F.c)):=by
  rw[show x4n=[I 0,I 0,I 0,I 0,I 0,I 0,I 0,I 0,I 0,I 0] by kernel_rfl];rfl
 have hre':∀m,xnu (xnt (d+6)) x2l [.agg [I L2,I S2,b],.agg ([I k,I rl,I rs]++F.c)] m=some (.agg [I rl,I rs,w],m):=hre
 have c9:sFA 0 (.ptr (0,17,10) 0 0)=some (.ptr (0,17,10) 0 0):=rfl
 have hwo:w.one=true:=hw.one
 obtain⟨M4,hM4⟩:∃M4:Mem,M4=M3.set (0,17,10) (.row ([I rl,I rs,w]++F.c++[v]) 0 false):=⟨_,rfl⟩
 have S4:∀{R:Type} (K:Mem->Option R),sSt 3 (.ptr (0,17,10) 0 0) (.agg [I rl,I rs,w]) M3 K=K M4:=λK=>by
  rw[xqb (off:=0) (z:=3) (x:=.agg [I rl,I rs,w]) (k:=K) v10 rfl (by simp[Aff.c]) (by rw[xud];simp[hwo]),hM4];rfl
 have w10:M4.get (0,17,10)=some (.row ([I rl,I rs,w]++F.c++[v]) 0 false):=by rw[hM4,Mem.get_set_same]
 have w6:M4.get (0,2,6)=some (.row (RC nilS) 0 false):=by rw[hM4,Mem.get_set_ne (by simp)];exact v6
 have d1:sLd true 11 (.ptr (0,17,10) 0 0) M4=some (.agg ([I rl,I rs,w]++F.c++[v])):=by rw[xov w10];rfl
 obtain⟨M5,hM5⟩:∃M5:Mem,M5=M4.set (0,2,6) (.row ([I rl,I rs,w]++F.c++[v]) 0 false):=⟨_,rfl⟩
 have S5:∀{R:Type} (K:Mem->Option R),sSt 11 (.ptr (0,2,6) 0 0) (.agg ([I rl,I rs,w]++F.c++[v])) M4 K=K M5:=λK=>by
  rw[xqb (off:=0) (z:=11) (x:=.agg ([I rl,I rs,w]++F.c++[v])) (k:=K) w6 rfl (by simp[RC]) (by rw[xud];simp[hwo,hvo.1,Aff.c]),hM5];rfl
 have x6:M5.get (0,2,6)=some (.row ([I rl,I rs,w]++F.c++[v]) 0 false):=by rw[hM5,Mem.get_set_same]
 have l6:sLdP true 11 (.ptr (0,2,6) 0 0) M5=some (.agg ([I rl,I rs,w]++F.c++[v])):=by show sLd true 11 (.ptr (0,2,6) 0 0) M5=_;rw[xov x6];rfl
 unfold x35
 simp only[a1,a2,e1,xnz,xou,hc,x1a8,xpj,a3,e2,a4,S3,c1,c2,c3,c4,c5,c6,c7,c8,hre',c9,S4,d1,S5,l6]
 obtain⟨p,hp,hz⟩:=(G2.frame (m':=M5) (λid hid=>by rw[hM5,Mem.get_set_ne (by rintro rfl;simp[okR]at hid),hM4,Mem.get_set_ne (by rintro rfl;simp[okR]at hid),hM3,Mem.get_set_ne (by rintro rfl;simp[okR]at hid)])).frz (k:=2)
 have zw:Go.Ix.frz M5.get 4 w=some w:=xue M5.get 3 hw.still1
 have zi:∀n:Int,Go.Ix.frz M5.get 4 (I n)=some (I n):=λ_=>rfl
 have z1:Go.Ix.frz M5.get 5 (.agg ([I rl,I rs,w]++F.c++[v]))=some (.agg ([I rl,I rs,w]++F.c++[p])):=by
  show(([I rl,I rs,w]++F.c++[v]).mapM (Go.Ix.frz M5.get 4)).map AV.agg=_
  simp only[Aff.c,x1ad,x19r,x1a9,x1b4,zi,zw,hz]
  rfl
 exact RetF.mk (xx4 z1 frz_I) (.inr ⟨rfl,w,p,hw,hp,rfl⟩)
end Go.Ix
namespace Go.Ix
open Go.Proofs
variable{L S L2 S2:Int}{D D2:List Px}{l:List Mp}{a b:AV}
theorem gk_one{t:Nat}{m:Mem}{v:AV}{l:List Mp}(h:Gk 5 Mp.c (okR t) m v l):v.one=true/\v.cells=[v]:=by
 rcases h with ⟨rfl,rfl⟩|⟨id,ver,h1,rfl,h3⟩
 .exact⟨rfl,rfl⟩
 .exact⟨rfl,rfl⟩
theorem r_rReg(d:Nat)(ha:Sl pxE a D)(hR:RtI L S D)(hb:Sl pxE b D2)(hR2:RtI L2 S2 D2){z w st:Nat}{r lst t k:Int}(ck:tkE z w st r lst t=0){rl rs:Nat}(hL:L=rl)(hS:S=rs) :
 RetF (RrgT (regE L S D L2 S2 D2 z w st r lst t k) rl rs (allR L2 S2 D2 k (fitM (regF L S D L2 S2 D2 z w st r lst t)) rs 0 rl) (fitM (regF L S D L2 S2 D2 z w st r lst t)) (regF L S D L2 S2 D2 z w st r lst t))
  (xnt (d+7) [] x3m [.agg [I L,I S,a,I L2,I S2,b],.agg [I z,I w,I st,I r,I lst,I t],I k] mem0):=by
 obtain⟨hz,hw,hst,hr,hlst,-⟩:=xuv ck
 obtain⟨x,hx,hoff⟩:=w_rOff (L:=L) (S:=S) (L2:=L2) (S2:=S2) (z:=z) (w:=w) (st:=st) d ha hR hb hR2 ck
 have hLw:=wi_t hR.l
 have hSw:=wi_t hR.s
 rw[xiq]
 unfold xcw x87
 have ho:(AV.agg [I L,I S,a,I L2,I S2,b]).cells.all AV.one=true:=by rw[xud];simp[ha.one,hb.one]
 have ho2:(AV.agg [I z,I w,I st,I r,I lst,I t]).cells.all AV.one=true:=rfl
 simp only[mem0,xx0,ho,ho2,xqc,xww,z_rc]
 have e1:(0:Nat)+1=1:=rfl
 have e2:(0:Nat)+2=2:=rfl
 have e17:(0:Nat)+17=17:=rfl
 rw[e1,e2,e17]
 generalize hm0:Mem.new (Mem.new _ _ _) _ _=m0
 have g3:m0.get (0,0,3)=some (.row [I L,I S,a,I L2,I S2,b] 0 false):=by rw[<-hm0];simp
 have g4:m0.get (0,1,4)=some (.row [I z,I w,I st,I r,I lst,I t] 0 false):=by rw[<-hm0];simp
 have g6:m0.get (0,2,6)=some (.row (RC nilS) 0 false):=by rw[<-hm0];simp
 have hn:m0.next=1:=by rw[<-hm0];rfl
 have l3:sLd true 6 (.ptr (0,0,3) 0 0) m0=some (.agg [I L,I S,a,I L2,I S2,b]):=by rw[xov g3];rfl
 have l4:sLd true 6 (.ptr (0,1,4) 0 0) m0=some (.agg [I z,I w,I st,I r,I lst,I t]):=by rw[xov g4];rfl
 have x0:∀(a:AV) (e:Int),sExt (.tup [a,I e]) 0=some a:=λ_ _=>rfl
 have x1:∀(a:AV) (e:Int),sExt (.tup [a,I e]) 1=some (I e):=λ_ _=>rfl
 have hker:∀m,xnu (xnt (d+6)) x2i [I k] m=some (B (wi k 0 2),m):=λm=>x15y (d+4) k m
 have b1:xo5 (RC nilS) []=some (.agg (RC nilS)):=rfl
 have S1:∀{R:Type} (K:Mem->Option R),sSt 11 (.ptr (0,2,6) 0 0) (.agg (RC nilS)) m0 K=K (m0.set (0,2,6) (.row (RC nilS) 0 false)):=λK=>by
  rw[xqb (off:=0) (z:=11) (x:=.agg (RC nilS)) (k:=K) g6 rfl (by simp[RC]) rfl];rfl
 have l6:sLdP true 11 (.ptr (0,2,6) 0 0) (m0.set (0,2,6) (.row (RC nilS) 0 false))=some (.agg (RC nilS)):=by
  show sLd true 11 (.ptr (0,2,6) 0 0) _=_;rw[xov (Mem.get_set_same ..)];rfl
 simp only[l3,l4,xnz,hoff,x0,x1,hker,sNot_B]
 by_cases c1:30<(xos L S z w st).length
 .have hE:regE L S D L2 S2 D2 z w st r lst t k=8:=by unfold regE;rw[if_pos c1]
  rw[hE]
  simp only[c1,x19o,sNe_I,show decide ((8:Int)=0)=false from rfl,x1ar,xnz,xot,b1,S1,l6]
  exact RetF.tup rfl (.inl ⟨by decide,rfl⟩)
 rw[if_neg c1]at hx
 simp only[c1,x19l,sNe_I,x19d,x1bl,xnz,xpj]
 cases c2:wi k 0 2
 .have hE:regE L S D L2 S2 D2 z w st r lst t k=15:=by unfold regE;rw[if_neg c1,if_pos c2]
  rw[hE]
  simp only[x1ar,xot,xnz,b1,S1,l6]
  exact RetF.tup rfl (.inl ⟨by decide,rfl⟩)
 have hE:regE L S D L2 S2 D2 z w st r lst t k=if rkM (regF L S D L2 S2 D2 z w st r lst t)<3 then 30 else 0:=by unfold regE;rw[if_neg c1,if_neg (by simp[c2])]
 rw[hE]
 simp only[x1bl,xpj]
 generalize hm1:m0.new (0,17,10) (.row (RC nilS) 0 false)=m1
 have q3:m1.get (0,0,3)=some (.row [I L,I S,a,I L2,I S2,b] 0 false):=by rw[<-hm1,Mem.get_new_ne (by simp)];exact g3
 have q4:m1.get (0,1,4)=some (.row [I z,I w,I st,I r,I lst,I t] 0 false):=by rw[<-hm1,Mem.get_new_ne (by simp)];exact g4
 have q6:m1.get (0,2,6)=some (.row (RC nilS) 0 false):=by rw[<-hm1,Mem.get_new_ne (by simp)];exact g6
 have q10:m1.get (0,17,10)=some (.row (RC nilS) 0 false):=by rw[<-hm1,Mem.get_new_same]
 have hin:=pts_in (L:=L) (S:=S) (D:=D) (L2:=L2) (S2:=S2) (D2:=D2) (z:=z) (w:=w) (st:=st) (R:=r) (lst:=lst) hLw.2 hSw.2 (by omega) (by omega) hr
 have hpl:=xy1 (L:=L) (S:=S) (D:=D) (L2:=L2) (S2:=S2) (D2:=D2) (z:=z) (w:=w) (R:=r) (lst:=lst) (xos L S z w st)
 unfold regF
 generalize ptsM L S D L2 S2 D2 z w r lst (xos L S z w st)=P at *
 obtain⟨y,hy,hkp⟩:=w_rKept (d+4) hx (by omega) hin t m1
 have a1:sFA 5 (.ptr (0,1,4) 0 0)=some (.ptr (0,1,4) 0 5):=rfl
 have a2:sLd false 1 (.ptr (0,1,4) 0 5) m1=some (I t):=by rw[xov q4];rfl
 have hkp':xnu (xnt (d+6)) x2j [x,I t] m1=some (y,m1):=hkp
 simp only[a1,a2,xnz,hkp']
 unfold xf6
 have hkl:=xzq (xpl P t) P 0
 have hsel:=x109 (l:=P) (xpl P t) P 0 rfl
 have hfl:(P.filter (xpl P t)).length<=30:=x19s (x1dt _ _) (by omega)
 refine l_regR (xnt (d+6)) [] hy hx (by omega) (x10a (xpl P t) P 0 rfl) m1 _ (λv m fc hG h10 hn' hf=>?_) (xpr (xpl P t) 0 P) 0 NN nilS [] m1 _ rfl (by rw[xo8];omega) (x196 _) rfl Gk.nil q10 rfl (λ_ _ _=>rfl)
 rw[hsel]at hG
 subst hL hS
 have f3:=(hf (0,0,3) (by simp[okR]) (by simp)).trans q3
 have f6:=(hf (0,2,6) (by simp[okR]) (by simp)).trans q6
 have hfi:xod (P.filter (xpl P t)):=λp hp=>hin p (x19n.mp hp).1
 by_cases c:rkM (P.filter (xpl P t))<3
 .rw[if_pos c]
  exact b_rreg0e d hfi hfl c f6 h10 hG
 .rw[if_neg c]
  exact b_rreg0 d hb hR2 c2 (by omega) (by omega) hfi hfl c f3 f6 h10 hG (gk_one hG)
end Go.Ix
set_option exponentiation.threshold 3000
namespace Go.Ix
open Go.Proofs
variable{a b:AV}{D D2:List Px}{L S L2 S2:Int}
end Go.Ix
namespace Go.Ix
open Go.Proofs
variable{a b:AV}{D D2:List Px}{L S L2 S2:Int}
theorem callFA{T:AV->Prop}{call:xnv}{f:FuncId}{l:List AV}(hl:l.all still=true)(h:RetF T (call [] f l mem0)):∃a,T a/\∀m,xnu call f l m=some (a,m):=by
 obtain⟨a,m',a',h1,h2,h3⟩:=h
 exact⟨a',h3,λm=>x12m hl h1 h2⟩
theorem e_reg0{x y p q:AV}{A:List Px}{l:List Mp}(hx:Sl pxE x A)(hy:Sl pxE y A)(hA:A.length<=100000)(hp:Pts p l)(hq:Pts q l)(hl:l.length<=1000){i j E:Int}{f:Aff}{i8 i9 i13:Id}{m:Mem}{fc:Nat}(g8:m.get i8=some (.row [I i,I j,x] 0 false))(g9:m.get i9=some (.row f.c 0 false))(g13:m.get i13=some (.row ([I i,I j,y]++f.c++[q]) 0 false)) :
 ∃m',x5x (xnt 30) [] 0 (.ptr i8 0 0) (.ptr i9 0 0) p (I E) (I E) (.ptr i13 0 0) m fc=some (B true,m'):=by
 have s1:=λm=>x162 27 (L:=i) (S:=j) (L':=i) (S':=j) hx hy hA m
 have pts:=λm=>w_rPoints 29 hp hq hl m
 have z1:sLd true 3 (.ptr i8 0 0) m=some (.agg [I i,I j,x]):=by rw[xov g8];rfl
 have a1:sFA 0 (.ptr i13 0 0)=some (.ptr i13 0 0):=rfl
 have z2:sLd true 3 (.ptr i13 0 0) m=some (.agg [I i,I j,y]):=by rw[xov g13];rfl
 have z3:sLd true 7 (.ptr i9 0 0) m=some (.agg f.c):=by rw[xov g9];rfl
 have a2:sFA 3 (.ptr i13 0 0)=some (.ptr i13 0 3):=rfl
 have z4:sLd true 7 (.ptr i13 0 3) m=some (.agg f.c):=by rw[xov g13];rfl
 have a3:sFA 10 (.ptr i13 0 0)=some (.ptr i13 0 10):=rfl
 have z5:sLd false 1 (.ptr i13 0 10) m=some q:=by rw[xov g13];rfl
 have s1':xnu (xnt 30) x28 [.agg [I i,I j,x],.agg [I i,I j,y]] m=some (B true,m):=by rw[s1];simp
 unfold x5x
 simp only[sEq_I,x19d,xnz,xwy,xwz,xwx,sW_t,xqc,z1,a1,z2,s1',xwt,z3,a2,z4,eq_aff,a3,z5,pts]
 exact⟨_,rfl⟩
theorem law_MatchRegisters(L S:Int){l r:List Nat}(ha:Sl f32E a l)(L2 S2:Int)(hb:Sl f32E b r)(z w s R lst t k:Int):∃m',xnt 31 [] x5t [.agg [I L,I S,a,I L2,I S2,b],.agg [I z,I w,I s,I R,I lst,I t],I k] mem0=some (B true,m'):=by
 rw[xil]
 unfold xcr x7y
 have bo:=λm=>w_both 28 L S L2 S2 ha hb m
 by_cases cl:l.length<=200
 rotate_left
 .simp[mem0,ha.one,hb.one,xvu,bo,cl]
 by_cases cr:r.length<=200
 rotate_left
 .simp[mem0,ha.one,hb.one,xvu,bo,cl,cr]
 obtain⟨u,v,hu,hv,ep⟩:=w_LPair 27 L S L2 S2 ha hb (by omega) (by omega)
 have hD:=xzs l
 have hD2:=xzs r
 have c2:=λm=>x167 28 z w s R lst t m
 have pe:=λm=>x164 (L:=L) (S:=S) (L2:=L2) (S2:=S2) 24 hu (by omega) hv (by omega) m
 have hst1:[AV.agg [I L,I S,u,I L2,I S2,v],.agg [I z,I w,I s,I R,I lst,I t],I k].all still=true:=by simp[hu.still1,hv.still1]
 by_cases c:ptE L S (prsM l) L2 S2 (prsM r) z w s R lst t=0
 rotate_left
 .obtain⟨q,hq,re⟩:=callFA hst1 (x16c (L:=L) (S:=S) (L2:=L2) (S2:=S2) 19 hu (by omega) hv (by omega) z w s R lst t k c (rl:=0) (rs:=0) (px:=[]) (f:=⟨0,0,0,0,0,0,0⟩) (fit:=[]))
  rcases hq with ⟨-,rfl⟩|⟨h0,-⟩
  rotate_left
  .exact absurd h0 c
  have s1:Sl pxE nilS ([]:List Px):=Or.inl ⟨rfl,rfl⟩
  have s2:Pts nilS ([]:List Mp):=Or.inl ⟨rfl,rfl⟩
  have e0:=λ(E:Int) (m:Mem) (fc:Nat) (g8:m.get (0,22,8)=some (.row [I 0,I 0,nilS] 0 false)) (g9:m.get (0,23,9)=some (.row AZ 0 false)) (fd:Nat) (g13:m.get (0,fd,13)=some (.row (RC nilS) 0 false))=>
   e_reg0 s1 s1 (by simp) s2 s2 (by simp) (E:=E) (f:=⟨0,0,0,0,0,0,0⟩) (fc:=fc) g8 g9 g13
  simp[mem0,ha.one,hb.one,hu.one,hv.one,xvu,bo,cl,cr,ep,re,pe,xxq,xq5,xqt,AZ,xny,cAp,tR,mkM,clean,ha.clean1,hb.clean1,hu.clean1,hv.clean1,xoa,disj,show Nat.blt 0 1=true from rfl]
  unfold x5y
  unfold ptE at c e0 ⊢
  by_cases c3:prE L S (prsM l) L2 S2 (prsM r)=0
  .rw[if_pos c3]at c ⊢
   simp[c3,c2]
   unfold x34 x4m
   simp[c,xny]
   exact e0 _ _ _ (by simp) (by simp[AZ]) _ (by simp[z_rc])
  .rw[if_neg c3]
   simp[c3]
   unfold x34 x4m
   simp[c3,xny]
   exact e0 _ _ _ (by simp) (by simp[AZ]) _ (by simp[z_rc])
 obtain⟨cp,ck⟩:=ptE_0 c
 have hR:=xtv (xtx cp).1
 have hR2:=xtv (xtx cp).2
 obtain⟨hz,hw,hst,hr,-⟩:=xuv ck
 obtain⟨zn,rfl⟩:∃n:Nat,z=n:=⟨z.toNat,by omega⟩
 obtain⟨wn,rfl⟩:∃n:Nat,w=n:=⟨w.toNat,by omega⟩
 obtain⟨st,rfl⟩:∃n:Nat,s=n:=⟨s.toNat,by omega⟩
 have hLw:=wi_t hR.l
 have hSw:=wi_t hR.s
 obtain⟨rl,rfl⟩:∃n:Nat,L=n:=⟨L.toNat,by omega⟩
 obtain⟨rs,rfl⟩:∃n:Nat,S=n:=⟨S.toNat,by omega⟩
 obtain⟨q,hq,re⟩:=callFA hst1 (x16b (L:=rl) (S:=rs) (L2:=L2) (S2:=S2) 19 hu (by omega) hv (by omega) (k:=k) c rfl rfl)
 obtain⟨q',hq',re'⟩:=callFA hst1 (r_rReg (L:=rl) (S:=rs) (L2:=L2) (S2:=S2) 23 hu hR hv hR2 (k:=k) ck rfl rfl)
 have hpl:=xy1 (L:=rl) (S:=rs) (D:=prsM l) (L2:=L2) (S2:=S2) (D2:=prsM r) (z:=zn) (w:=wn) (R:=R) (lst:=lst) (xos rl rs zn wn st)
 have hfl:(regF rl rs (prsM l) L2 S2 (prsM r) zn wn st R lst t).length<=(xos rl rs zn wn st).length:=by
  unfold regF;exact x19s (x1dt _ _) hpl
 have h30:regE rl rs (prsM l) L2 S2 (prsM r) zn wn st R lst t k=0->(xos rl rs zn wn st).length<=30:=by
  unfold regE
  split
  .intro h;exact absurd h (by decide)
  .intro _;omega
 generalize regE rl rs (prsM l) L2 S2 (prsM r) zn wn st R lst t k=E at *
 generalize hF:regF rl rs (prsM l) L2 S2 (prsM r) zn wn st R lst t=F at *
 generalize hA:allR L2 S2 (prsM r) k (fitM F) rs 0 rl=A at *
 have hAl:A.length<=100000:=by
  rw[<-hA,x13v];have:=x1a3 (show rl<=64 by omega) (show rs<=64 by omega);omega
 generalize fitM F=f at *
 rcases hq with ⟨h0,rfl⟩|⟨rfl,x,p,hx,hp,rfl⟩
 .rcases hq' with ⟨-,rfl⟩|⟨h1,-⟩
  rotate_left
  .exact absurd h1 h0
  have s1:Sl pxE nilS ([]:List Px):=Or.inl ⟨rfl,rfl⟩
  have s2:Pts nilS ([]:List Mp):=Or.inl ⟨rfl,rfl⟩
  simp[mem0,ha.one,hb.one,hu.one,hv.one,xvu,bo,cl,cr,ep,re,pe,xxq,xq5,xqt,AZ,xny,cAp,tR,mkM,clean,ha.clean1,hb.clean1,hu.clean1,hv.clean1,xoa,disj,show Nat.blt 0 1=true from rfl]
  unfold x5y
  simp[cp,c2,ck]
  unfold x34 x4m
  simp[xny,re',hu.one,hv.one,z_rc,RC]
  refine e_reg0 s1 s1 (by simp) s2 s2 (by simp) (i:=0) (j:=0) (f:=⟨0,0,0,0,0,0,0⟩) ?_ ?_ ?_
  .simp
  .simp[Aff.c]
  .simp[Aff.c]
 .rcases hq' with ⟨h1,-⟩|⟨-,x',p',hx',hp',rfl⟩
  .exact absurd rfl h1
  have hFl:F.length<=1000:=by
   have:=h30 rfl
   omega
  simp[mem0,ha.one,hb.one,hu.one,hv.one,xvu,bo,cl,cr,ep,re,pe,xxq,xq5,xqt,AZ,xny,cAp,tR,mkM,clean,ha.clean1,hb.clean1,hu.clean1,hv.clean1,xoa,disj,show Nat.blt 0 1=true from rfl,hx.one,Aff.c]
  unfold x5y
  simp[cp,c2,ck]
  unfold x34 x4m
  simp[xny,re',hu.one,hv.one,z_rc,RC,hx'.one,hp'.one,Aff.c]
  refine e_reg0 hx hx' hAl hp hp' hFl (i:=rl) (j:=rs) (f:=f) ?_ ?_ ?_
  .simp
  .simp[Aff.c]
  .simp[Aff.c]
end Go.Ix
