import Derived.Test.YtibmppgmjbpdmaaGreatDoorFxText0
import Derived.Test.YtibmppgmjbpdmaaGreatDoorFxText1
import Derived.Test.YtibmppgmjbpdmaaGreatDoorFxEnt
import Derived.Test.YtibmppgmjbpdmaaGreatDoorFxRules
import Derived.Test.YtibmppgmjbpdmaaGreatDoorFxProj
import Derived.ProofKit
set_option linter.unusedVariables false
namespace Go.Ix
open Go.Proofs
variable{c:x16u}{h:FHs}{u:Nat}
noncomputable abbrev x1lz:=VX x2y 123 r_0
theorem x10f:x1lz c h u (x16w x2y) r_0 eNil=j2 (x7n c h u) 0 1:=(tq (j2 (x7n c h u) 0 1) (sqN 4 (sq2 (kq (j1 (x3u c h u) 0)) (kq (j5 (x3v c h u) 0 1 5 6 7)))))
noncomputable abbrev x1m0:=VX x1t 71 r_1
theorem x10g:x1m0 c h u (x16w x1t) r_1 eNil=j0 (xaj c h u):=(kq (j0 (xaj c h u)))
noncomputable abbrev x1m1:=VX x1u 39 r_2
theorem x10h:x1m1 c h u (x16w x1u) r_2 eNil=j1 (x7q c h u) 0:=(tq (j1 (x7q c h u) 0) (sqN 1 (sq2 (kq (j1 (xak c h u) 0)) (tq (j1 (xal c h u) 0) (sqN 1 (bk 0 (lq (x2i c h u) (λr=>j2 r 0 3) λrec0=>(kq (j2 (x7p c h u rec0) 0 3)))))))))
noncomputable abbrev x1m2:=VX xr 92 r_3
theorem x10i:x1m2 c h u (x16w xr) r_3 eNil=j1 (x3y c h u) 0:=(tq (j1 (x3y c h u) 0) (sqN 4 (sq2 (kq (j3 (x3w c h u) 0 5 7)) (tq (j7 (xao c h u) 0 2 3 4 5 6 7) (sqN 1 (bk 0 (tq (j8 (xan c h u) 0 2 3 4 5 6 7 22) (rg2 (.tmp 22) #[23] (λlid u=>(kq (j4 (xam c h u lid) 5 6 7 8))) (λlid u=>(kq (j4 (x3x c h u lid) 5 6 7 23)))))))))))
noncomputable abbrev x1m3:=VX x19 102 r_4
theorem x10j:x1m3 c h u (x16w x19) r_4 eNil=j1 (x7s c h u) 0:=(tq (j1 (x7s c h u) 0) (sqN 4 (sq2 (kq (j3 (x15 c h u) 0 4 7)) (tq (j5 (xap c h u) 0 4 5 6 7) (sqN 1 (bk 0 (lq (x2j c h u) (λr=>j6 r 0 4 5 6 7 8) λrec0=>(kq (j6 (x7r c h u rec0) 0 4 5 6 7 8)))))))))
noncomputable abbrev x1m4:=VX x1v 26 r_0
theorem x10k:x1m4 c h u (x16w x1v) r_0 eNil=j2 (x7u c h u) 0 1:=(tq (j2 (x7u c h u) 0 1) (sqN 2 (sq2 (kq (j0 (xaq c h u))) (tq (j2 (xar c h u) 0 1) (sqN 1 (bk 0 (lq (x2k c h u) (λr=>j3 r 0 1 5) λrec0=>(kq (j3 (x7t c h u rec0) 0 1 5)))))))))
noncomputable abbrev x1m5:=VX x1a 12 r_4
theorem x10l:x1m5 c h u (x16w x1a) r_4 eNil=j1 (x7v c h u) 0:=(kq (j1 (x7v c h u) 0))
noncomputable abbrev x1m6:=VX x1b 6 r_2
theorem x10m:x1m6 c h u (x16w x1b) r_2 eNil=j1 (x7w c h u) 0:=(kq (j1 (x7w c h u) 0))
noncomputable abbrev x1m7:=VX x1w 37 r_4
theorem x10n:x1m7 c h u (x16w x1w) r_4 eNil=j1 (x7y c h u) 0:=(tq (j1 (x7y c h u) 0) (sqN 4 (sq2 (kq (j1 (xas c h u) 5)) (tq (j3 (xat c h u) 0 5 6) (sqN 1 (bk 0 (lq (x2l c h u) (λr=>j5 r 5 6 14 15 16) λrec0=>(kq (j5 (x7x c h u rec0) 5 6 14 15 16)))))))))
noncomputable abbrev x1m8:=VX x1x 35 r_2
theorem x10o:x1m8 c h u (x16w x1x) r_2 eNil=j1 (x80 c h u) 0:=(tq (j1 (x80 c h u) 0) (sqN 2 (sq2 (kq (j0 (xau c h u))) (tq (j1 (xav c h u) 0) (sqN 1 (bk 0 (lq (x2m c h u) (λr=>j2 r 0 3) λrec0=>(kq (j2 (x7z c h u rec0) 0 3)))))))))
noncomputable abbrev x1m9:=VX x1y 18 r_2
theorem x10p:x1m9 c h u (x16w x1y) r_2 eNil=j1 (x82 c h u) 0:=(tq (j1 (x82 c h u) 0) (sqN 2 (sq2 (kq (j1 (xaw c h u) 3)) (tq (j2 (xax c h u) 0 3) (sqN 1 (bk 0 (lq (x2n c h u) (λr=>j3 r 0 3 4) λrec0=>(kq (j3 (x81 c h u rec0) 0 3 4)))))))))
noncomputable abbrev x1ma:=VX x1z 38 r_2
theorem x10q:x1ma c h u (x16w x1z) r_2 eNil=j1 (x84 c h u) 0:=(tq (j1 (x84 c h u) 0) (sqN 2 (sq2 (kq (j1 (xay c h u) 3)) (tq (j3 (xaz c h u) 0 3 4) (sqN 1 (bk 0 (lq (x2o c h u) (λr=>j4 r 0 3 4 5) λrec0=>(kq (j4 (x83 c h u rec0) 0 3 4 5)))))))))
noncomputable abbrev x1mb:=VX x4f 31 r_5
theorem x10r:x1mb c h u (x16w x4f) r_5 eNil=j3 (xb0 c h u) 0 1 2:=(kq (j3 (xb0 c h u) 0 1 2))
noncomputable abbrev x1mc:=VX x2z 18 r_6
theorem x10s:x1mc c h u (x16w x2z) r_6 eNil=j0 (xb1 c h u):=(kq (j0 (xb1 c h u)))
noncomputable abbrev x1md:=VX x30 7 r_1
theorem x10t:x1md c h u (x16w x30) r_1 eNil=j0 (xb3 c h u):=(kq (j0 (xb3 c h u)))
noncomputable abbrev x1me:=VX x4g 38 r_7
theorem x10u:x1me c h u (x16w x4g) r_7 eNil=j3 (xb4 c h u) 0 1 2:=(kq (j3 (xb4 c h u) 0 1 2))
noncomputable abbrev x1mf:=VX x4h 21 r_8
theorem x10v:x1mf c h u (x16w x4h) r_8 eNil=j2 (xb5 c h u) 0 1:=(kq (j2 (xb5 c h u) 0 1))
noncomputable abbrev x1mg:=VX x4i 9 r_9
theorem x10w:x1mg c h u (x16w x4i) r_9 eNil=j0 (xb7 c h u):=(kq (j0 (xb7 c h u)))
noncomputable abbrev x1mh:=VX x4j 26 r_0
theorem x10x:x1mh c h u (x16w x4j) r_0 eNil=j2 (xb9 c h u) 0 1:=(tq (j2 (xb9 c h u) 0 1) (sqN 2 (sq2 (kq (j0 (xkm c h u))) (tq (j2 (xko c h u) 0 1) (sqN 1 (bk 0 (lq (xb8 c h u) (λr=>j3 r 0 1 5) λrec0=>(kq (j3 (xkn c h u rec0) 0 1 5)))))))))
noncomputable abbrev x1mi:=VX x1c 4 r_2
theorem x10y:x1mi c h u (x16w x1c) r_2 eNil=j1 (xba c h u) 0:=(kq (j1 (xba c h u) 0))
noncomputable abbrev x1mj:=VX x20 11 r_8
theorem x10z:x1mj c h u (x16w x20) r_8 eNil=j2 (x86 c h u) 0 1:=(kq (j2 (x86 c h u) 0 1))
noncomputable abbrev x1mk:=VX xk 13 r_10
theorem x110:x1mk c h u (x16w xk) r_10 eNil=j2 (x87 c h u) 0 1:=(kq (j2 (x87 c h u) 0 1))
noncomputable abbrev x1ml:=VX xx 29 r_0
theorem x111:x1ml c h u (x16w xx) r_0 eNil=j2 (x89 c h u) 0 1:=(tq (j2 (x89 c h u) 0 1) (sqN 1 (sq2 (kq (j1 (xbb c h u) 0)) (tq (j2 (xbc c h u) 0 3) (sqN 1 (bk 0 (lq (x2p c h u) (λr=>j4 r 0 14 15 16) λrec0=>(kq (j4 (x88 c h u rec0) 0 14 15 16)))))))))
noncomputable abbrev x1mm:=VX xm 54 r_2
theorem x112:x1mm c h u (x16w xm) r_2 eNil=j1 (x8b c h u) 0:=(tq (j1 (x8b c h u) 0) (sqN 1 (sq2 (kq (j1 (xbd c h u) 0)) (tq (j1 (xbe c h u) 0) (sqN 1 (bk 0 (lq (x1n c h u) (λr=>j4 r 0 7 8 9) λrec0=>(kq (j4 (x8a c h u rec0) 0 7 8 9)))))))))
noncomputable abbrev x1mn:=VX xh 34 r_0
theorem x113:x1mn c h u (x16w xh) r_0 eNil=j2 (x8d c h u) 0 1:=(tq (j2 (x8d c h u) 0 1) (sqN 3 (sq2 (kq (j3 (xbf c h u) 0 5 6)) (tq (j4 (xbh c h u) 0 1 5 6) (sqN 1 (bk 0 (lq (x2q c h u) (λr=>j5 r 0 1 5 6 7) λrec0=>(tq (j5 (x8c c h u rec0) 0 1 5 6 7) (sqN 1 (sq2 (kq (j5 (x44 c h u rec0) 0 1 5 6 7)) (kq (j5 (xbg c h u rec0) 0 1 5 6 7))))))))))))
noncomputable abbrev x1mo:=VX x1d 70 r_8
theorem x114:x1mo c h u (x16w x1d) r_8 eNil=j2 (x8h c h u) 0 1:=(tq (j2 (x8h c h u) 0 1) (sqN 2 (sq2 (tq (j3 (x45 c h u) 0 1 6) (sqN 2 (sq2 (sq2 (kq (j1 (x8e c h u) 7)) (kq (j2 (xbi c h u) 6 7))) (tq (j3 (x8g c h u) 0 6 7) (sqN 1 (bk 0 (lq (x2r c h u) (λr=>j4 r 0 6 7 8) λrec0=>(kq (j4 (x8f c h u rec0) 0 6 7 8))))))))) (kq (j3 (xbj c h u) 0 1 6)))))
noncomputable abbrev x1mp:=VX xy 55 r_2
theorem x115:x1mp c h u (x16w xy) r_2 eNil=j1 (x8j c h u) 0:=(tq (j1 (x8j c h u) 0) (sqN 2 (sq2 (kq (j0 (xbk c h u))) (tq (j1 (xbl c h u) 0) (sqN 1 (bk 0 (lq (x1o c h u) (λr=>j2 r 0 3) λrec0=>(kq (j2 (x8i c h u rec0) 0 3)))))))))
noncomputable abbrev x1mq:=VX xz 30 r_0
theorem x116:x1mq c h u (x16w xz) r_0 eNil=j2 (x8l c h u) 0 1:=(tq (j2 (x8l c h u) 0 1) (sqN 2 (sq2 (kq (j1 (xbm c h u) 0)) (tq (j2 (xbn c h u) 0 5) (sqN 1 (bk 0 (lq (x2s c h u) (λr=>j3 r 0 5 6) λrec0=>(kq (j3 (x8k c h u rec0) 0 5 6)))))))))
noncomputable abbrev x1mr:=VX x1e 29 r_2
theorem x117:x1mr c h u (x16w x1e) r_2 eNil=j1 (x8n c h u) 0:=(tq (j1 (x8n c h u) 0) (sqN 2 (sq2 (kq (j0 (xbo c h u))) (tq (j1 (xbp c h u) 0) (sqN 1 (bk 0 (lq (x2t c h u) (λr=>j3 r 8 9 10) λrec0=>(kq (j3 (x8m c h u rec0) 8 9 10)))))))))
noncomputable abbrev x1ms:=VX x21 17 r_2
theorem x118:x1ms c h u (x16w x21) r_2 eNil=j1 (x8p c h u) 0:=(tq (j1 (x8p c h u) 0) (sqN 2 (sq2 (kq (j1 (xbq c h u) 3)) (tq (j2 (xbr c h u) 0 3) (sqN 1 (bk 0 (lq (x2u c h u) (λr=>j4 r 3 6 7 8) λrec0=>(kq (j4 (x8o c h u rec0) 3 6 7 8)))))))))
noncomputable abbrev x1mt:=VX x22 27 r_2
theorem x119:x1mt c h u (x16w x22) r_2 eNil=j1 (x8s c h u) 0:=(tq (j1 (x8s c h u) 0) (sqN 3 (sq2 (sq2 (kq (j2 (x8q c h u) 3 4)) (bk 0 (lq (x16 c h u) (λr=>j3 r 0 3 4) λrec0=>(kq (j3 (x46 c h u rec0) 0 3 4))))) (kq (j3 (xbs c h u) 0 3 4)))))
noncomputable abbrev x1mu:=VX x4k 57 r_11
theorem x11a:x1mu c h u (x16w x4k) r_11 eNil=j3 (xbt c h u) 0 1 2:=(kq (j3 (xbt c h u) 0 1 2))
noncomputable abbrev x1mv:=VX x4l 22 r_12
theorem x11b:x1mv c h u (x16w x4l) r_12 eNil=j1 (xbu c h u) 0:=(kq (j1 (xbu c h u) 0))
noncomputable abbrev x1mw:=VX x31 28 r_13
theorem x11c:x1mw c h u (x16w x31) r_13 eNil=j3 (xbv c h u) 0 1 2:=(kq (j3 (xbv c h u) 0 1 2))
noncomputable abbrev x1mx:=VX x32 19 r_2
theorem x11d:x1mx c h u (x16w x32) r_2 eNil=j1 (xbx c h u) 0:=(tq (j1 (xbx c h u) 0) (sqN 1 (sq2 (kq (j0 (xkq c h u))) (tq (j1 (xks c h u) 1) (sqN 1 (bk 0 (lq (xbw c h u) (λr=>j2 r 1 3) λrec0=>(kq (j2 (xkr c h u rec0) 1 3)))))))))
noncomputable abbrev x1my:=VX x33 38 r_10
theorem x11e:x1my c h u (x16w x33) r_10 eNil=j2 (xbz c h u) 0 1:=(tq (j2 (xbz c h u) 0 1) (sqN 4 (sq2 (kq (j1 (xkt c h u) 8)) (tq (j2 (xkv c h u) 1 8) (sqN 1 (bk 0 (lq (xby c h u) (λr=>j4 r 8 21 22 23) λrec0=>(kq (j4 (xku c h u rec0) 8 21 22 23)))))))))
noncomputable abbrev x1mz:=VX x4m 12 r_0
theorem x11f:x1mz c h u (x16w x4m) r_0 eNil=j2 (xc0 c h u) 0 1:=(kq (j2 (xc0 c h u) 0 1))
noncomputable abbrev x1n0:=VX x4n 104 r_14
theorem x11g:x1n0 c h u (x16w x4n) r_14 eNil=j2 (xc2 c h u) 0 1:=(tq (j2 (xc2 c h u) 0 1) (sqN 3 (sq2 (sq2 (kq (j2 (x8t c h u) 4 5)) (kq (j4 (xkw c h u) 4 5 6 7))) (tq (j6 (xl8 c h u) 2 3 4 5 6 7) (sqN 1 (bk 0 (tq (j7 (xl7 c h u) 2 3 4 5 6 7 15) (rg (.tmp 15) #[16] (λu=>(bk 1 (tq (j6 (xl5 c h u) 2 3 5 6 7 8) (sqN 4 (bk 2 (tq (j7 (xl4 c h u) 2 3 5 7 9 10 32) (sqN 1 (tq (j8 (xl3 c h u) 2 3 5 7 9 10 32 64) (cd (kq (j2 (xkx c h u) 5 9)) (tq (j7 (xl2 c h u) 2 3 5 7 9 10 32) (sqN 1 (tq (j7 (xl1 c h u) 2 3 5 7 9 10 72) (cd (kq (j2 (xky c h u) 5 9)) (tq (j6 (xl0 c h u) 2 3 5 7 9 10) (sqN 1 (sq2 (kq (j2 (xc1 c h u) 7 11)) (kq (j4 (xkz c h u) 5 7 9 11)))))))))))))))))) (λu=>(kq (j6 (xl6 c h u) 2 3 5 6 7 16)))))))))))
noncomputable abbrev x1n1:=VX x4o 14 r_15
theorem x11h:x1n1 c h u (x16w x4o) r_15 eNil=j1 (xc3 c h u) 0:=(kq (j1 (xc3 c h u) 0))
noncomputable abbrev x1n2:=VX x4p 62 r_8
theorem x11i:x1n2 c h u (x16w x4p) r_8 eNil=j2 (xc5 c h u) 0 1:=(tq (j2 (xc5 c h u) 0 1) (sqN 2 (sq2 (kq (j1 (xla c h u) 6)) (tq (j3 (xlc c h u) 1 2 6) (sqN 1 (bk 0 (lq (xc4 c h u) (λr=>j6 r 1 2 6 9 10 11) λrec0=>(kq (j6 (xlb c h u rec0) 1 2 6 9 10 11)))))))))
noncomputable abbrev x1n3:=VX xt 25 r_16
theorem x11j:x1n3 c h u (x16w xt) r_16 eNil=j2 (x2v c h u NN) 0 1:=(bk 0 (lq (x2v c h u) (λr=>j2 r 0 1) λrec0=>(tq (j2 (xc8 c h u rec0) 0 1) (sqN 1 (bk 1 (tq (j2 (xc7 c h u rec0) 0 1) (sqN 1 (sq2 (kq (j3 (x47 c h u rec0) 0 1 3)) (kq (j2 (xc6 c h u rec0) 0 1))))))))))
noncomputable abbrev x1n4:=VX x23 8 r_0
theorem x11k:x1n4 c h u (x16w x23) r_0 eNil=j2 (x8v c h u) 0 1:=(kq (j2 (x8v c h u) 0 1))
noncomputable abbrev x1n5:=VX x24 18 r_8
theorem x11l:x1n5 c h u (x16w x24) r_8 eNil=j2 (x8w c h u) 0 1:=(kq (j2 (x8w c h u) 0 1))
noncomputable abbrev x1n6:=VX x25 23 r_10
theorem x11m:x1n6 c h u (x16w x25) r_10 eNil=j2 (x8x c h u) 0 1:=(kq (j2 (x8x c h u) 0 1))
noncomputable abbrev x1n7:=VX xab 5 r_2
theorem x11n:x1n7 c h u (x16w xab) r_2 eNil=j1 (xc9 c h u) 0:=(kq (j1 (xc9 c h u) 0))
noncomputable abbrev x1n8:=VX x1f 9 r_0
theorem x11o:x1n8 c h u (x16w x1f) r_0 eNil=j2 (x8y c h u) 0 1:=(kq (j2 (x8y c h u) 0 1))
noncomputable abbrev x1n9:=VX x26 7 r_2
theorem x11p:x1n9 c h u (x16w x26) r_2 eNil=j1 (x8z c h u) 0:=(kq (j1 (x8z c h u) 0))
noncomputable abbrev x1na:=VX x4q 12 r_0
theorem x11q:x1na c h u (x16w x4q) r_0 eNil=j2 (xca c h u) 0 1:=(kq (j2 (xca c h u) 0 1))
noncomputable abbrev x1nb:=VX x34 32 r_17
theorem x11r:x1nb c h u (x16w x34) r_17 eNil=j2 (xcb c h u) 0 1:=(kq (j2 (xcb c h u) 0 1))
noncomputable abbrev x1nc:=VX x35 56 r_3
theorem x11s:x1nc c h u (x16w x35) r_3 eNil=j1 (xcc c h u) 0:=(tq (j1 (xcc c h u) 0) (sqN 1 (sq2 (kq (j1 (xld c h u) 1)) (bk 0 (sq2 (kq (j2 (x91 c h u) 1 7)) (kq (j1 (xle c h u) 1)))))))
noncomputable abbrev x1nd:=VX x36 23 r_0
theorem x11t:x1nd c h u (x16w x36) r_0 eNil=j2 (xce c h u) 0 1:=(tq (j2 (xce c h u) 0 1) (sqN 2 (sq2 (kq (j1 (xcd c h u) 5)) (kq (j3 (xlf c h u) 0 1 5)))))
noncomputable abbrev x1ne:=VX x4r 10 r_0
theorem x11u:x1ne c h u (x16w x4r) r_0 eNil=j2 (xcf c h u) 0 1:=(kq (j2 (xcf c h u) 0 1))
noncomputable abbrev x1nf:=VX x4s 129 r_2
theorem x11v:x1nf c h u (x16w x4s) r_2 eNil=j1 (xck c h u) 0:=(tq (j1 (xck c h u) 0) (sqN 2 (sq2 (tq (j1 (xlm c h u) 1) (sqN 1 (sq2 (tq (j1 (xlj c h u) 1) (sqN 1 (sq2 (kq (j0 (xlg c h u))) (tq (j1 (xli c h u) 1) (sqN 1 (bk 6 (lq (xcg c h u) (λr=>j4 r 1 107 108 109) λrec0=>(kq (j4 (xlh c h u rec0) 1 107 108 109))))))))) (tq (j1 (xll c h u) 1) (sqN 1 (bk 3 (lq (xch c h u) (λr=>j4 r 1 60 61 62) λs=>(kq (j4 (xlk c h u s) 1 60 61 62))))))))) (tq (j1 (xlo c h u) 1) (sqN 1 (bk 1 (lq (xci c h u) (λr=>j4 r 1 30 31 32) λw=>(kq (j4 (xln c h u w) 1 30 31 32)))))))))
noncomputable abbrev x1ng:=VX x4t 9 r_2
theorem x11w:x1ng c h u (x16w x4t) r_2 eNil=j1 (xcl c h u) 0:=(kq (j1 (xcl c h u) 0))
noncomputable abbrev x1nh:=VX x4u 97 r_0
theorem x11x:x1nh c h u (x16w x4u) r_0 eNil=j2 (xcn c h u) 0 1:=(tq (j2 (xcn c h u) 0 1) (sqN 6 (sq2 (kq (j6 (xcm c h u) 0 3 5 7 8 10)) (kq (j6 (xlq c h u) 0 3 5 7 8 10)))))
noncomputable abbrev x1ni:=VX x4v 19 r_0
theorem x11y:x1ni c h u (x16w x4v) r_0 eNil=j2 (xcp c h u) 0 1:=(tq (j2 (xcp c h u) 0 1) (sqN 1 (sq2 (kq (j0 (xlr c h u))) (tq (j2 (xlt c h u) 0 1) (sqN 1 (bk 0 (lq (xco c h u) (λr=>j4 r 0 1 7 8) λrec0=>(kq (j4 (xls c h u rec0) 0 1 7 8)))))))))
noncomputable abbrev x1nj:=VX x4w 8 r_18
theorem x11z:x1nj c h u (x16w x4w) r_18 eNil=j2 (xcq c h u) 0 1:=(kq (j2 (xcq c h u) 0 1))
noncomputable abbrev x1nk:=VX x4x 6 r_0
theorem x120:x1nk c h u (x16w x4x) r_0 eNil=j2 (xcr c h u) 0 1:=(kq (j2 (xcr c h u) 0 1))
noncomputable abbrev x1nl:=VX x4y 44 r_8
theorem x121:x1nl c h u (x16w x4y) r_8 eNil=j2 (xcs c h u) 0 1:=(kq (j2 (xcs c h u) 0 1))
noncomputable abbrev x1nm:=VX x4z 128 r_4
theorem x122:x1nm c h u (x16w x4z) r_4 eNil=j1 (xcv c h u) 0:=(tq (j1 (xcv c h u) 0) (sqN 2 (sq2 (tq (j1 (xly c h u) 1) (sqN 1 (sq2 (kq (j1 (xlu c h u) 1)) (tq (j1 (xlw c h u) 1) (sqN 1 (bk 3 (lq (xct c h u) (λr=>j4 r 1 83 84 85) λrec0=>(kq (j4 (xlv c h u rec0) 1 83 84 85))))))))) (tq (j1 (xm0 c h u) 1) (sqN 1 (bk 0 (lq (xcu c h u) (λr=>j4 r 1 14 15 16) λs=>(kq (j4 (xlz c h u s) 1 14 15 16)))))))))
noncomputable abbrev x1nn:=VX xi 15 r_19
theorem x123:x1nn c h u (x16w xi) r_19 eNil=j3 (xcw c h u) 0 1 2:=(kq (j3 (xcw c h u) 0 1 2))
noncomputable abbrev x1no:=VX x50 36 r_0
theorem x124:x1no c h u (x16w x50) r_0 eNil=j2 (xcy c h u) 0 1:=(tq (j2 (xcy c h u) 0 1) (sqN 2 (sq2 (kq (j1 (xm1 c h u) 5)) (bk 0 (lq (xcx c h u) (λr=>j3 r 1 2 5) λrec0=>(kq (j3 (xm2 c h u rec0) 1 2 5)))))))
noncomputable abbrev x1np:=VX x10 8 r_0
theorem x125:x1np c h u (x16w x10) r_0 eNil=j2 (x96 c h u) 0 1:=(kq (j2 (x96 c h u) 0 1))
noncomputable abbrev x1nq:=VX x27 21 r_0
theorem x126:x1nq c h u (x16w x27) r_0 eNil=j2 (x97 c h u) 0 1:=(kq (j2 (x97 c h u) 0 1))
noncomputable abbrev x1nr:=VX x11 143 r_0
theorem x127:x1nr c h u (x16w x11) r_0 eNil=j2 (x48 c h u) 0 1:=(tq (j2 (x48 c h u) 0 1) (sqN 8 (sq2 (kq (j0 (xm3 c h u))) (bk 1 (lq (xd0 c h u) (λr=>j8 r 0 1 5 6 7 8 9 10) λrec0=>(tq (j8 (xm6 c h u rec0) 0 1 5 6 7 8 9 10) (sqN 1 (bk 2 (sq2 (kq (j8 (xcz c h u rec0) 0 1 5 6 7 8 9 10)) (kq (j8 (xm5 c h u rec0) 0 1 5 6 7 8 9 10)))))))))))
noncomputable abbrev x1ns:=VX x52 54 r_0
theorem x128:x1ns c h u (x16w x52) r_0 eNil=j2 (xd2 c h u) 0 1:=(tq (j2 (xd2 c h u) 0 1) (sqN 1 (sq2 (kq (j2 (xm7 c h u) 0 1)) (tq (j2 (xmc c h u) 0 1) (sqN 1 (tq (j3 (xmb c h u) 0 1 11) (cd (tq (j1 (xm9 c h u) 0) (sqN 3 (sq2 (kq (j3 (xd1 c h u) 0 5 6)) (kq (j3 (xm8 c h u) 0 5 6))))) (kq (j2 (xma c h u) 0 1)))))))))
noncomputable abbrev x1nt:=VX x12 8 r_0
theorem x129:x1nt c h u (x16w x12) r_0 eNil=j2 (x98 c h u) 0 1:=(kq (j2 (x98 c h u) 0 1))
noncomputable abbrev x1nu:=VX x53 19 r_0
theorem x12a:x1nu c h u (x16w x53) r_0 eNil=j2 (xd4 c h u) 0 1:=(tq (j2 (xd4 c h u) 0 1) (sqN 1 (sq2 (kq (j0 (xmd c h u))) (tq (j2 (xmf c h u) 0 1) (sqN 1 (bk 0 (lq (xd3 c h u) (λr=>j4 r 0 1 7 8) λrec0=>(kq (j4 (xme c h u rec0) 0 1 7 8)))))))))
noncomputable abbrev x1nv:=VX x54 8 r_18
theorem x12b:x1nv c h u (x16w x54) r_18 eNil=j2 (xd5 c h u) 0 1:=(kq (j2 (xd5 c h u) 0 1))
noncomputable abbrev x1nw:=VX x55 64 r_20
theorem x12c:x1nw c h u (x16w x55) r_20 eNil=j2 (xd7 c h u) 0 1:=(tq (j2 (xd7 c h u) 0 1) (sqN 3 (sq2 (kq (j3 (xmg c h u) 4 6 7)) (tq (j5 (xmj c h u) 1 2 4 6 7) (sqN 1 (bk 0 (lq (xd6 c h u) (λr=>j7 r 1 4 6 7 17 18 19) λrec0=>(tq (j7 (xmi c h u rec0) 1 4 6 7 17 18 19) (sqN 2 (sq2 (kq (j7 (x99 c h u rec0) 1 4 6 7 17 18 19)) (kq (j7 (xmh c h u rec0) 1 4 6 7 17 18 19))))))))))))
noncomputable abbrev x1nx:=VX x56 90 r_10
theorem x12d:x1nx c h u (x16w x56) r_10 eNil=j2 (xdc c h u) 0 1:=(tq (j2 (xdc c h u) 0 1) (sqN 5 (sq2 (tq (j4 (xmo c h u) 1 2 8 9) (sqN 3 (sq2 (kq (j1 (xmk c h u) 14)) (tq (j4 (xmn c h u) 1 12 13 14) (sqN 1 (bk 2 (lq (xd9 c h u) (λr=>j7 r 1 12 13 14 60 61 62) λrec0=>(tq (j7 (xmm c h u rec0) 1 12 13 14 60 61 62) (sqN 2 (sq2 (kq (j7 (xd8 c h u rec0) 1 12 13 14 60 61 62)) (kq (j7 (xml c h u rec0) 1 12 13 14 60 61 62)))))))))))) (tq (j4 (xmr c h u) 1 2 8 9) (sqN 1 (bk 0 (lq (xdb c h u) (λr=>j7 r 1 2 8 9 36 37 38) λs=>(tq (j7 (xmq c h u s) 1 2 8 9 36 37 38) (sqN 2 (sq2 (kq (j7 (xda c h u s) 1 2 8 9 36 37 38)) (kq (j7 (xmp c h u s) 1 2 8 9 36 37 38))))))))))))
noncomputable abbrev x1ny:=VX x37 10 r_0
theorem x12e:x1ny c h u (x16w x37) r_0 eNil=j2 (xdd c h u) 0 1:=(kq (j2 (xdd c h u) 0 1))
noncomputable abbrev x1nz:=VX x13 15 r_19
theorem x12f:x1nz c h u (x16w x13) r_19 eNil=j3 (xde c h u) 0 1 2:=(kq (j3 (xde c h u) 0 1 2))
noncomputable abbrev x1o0:=VX x28 15 r_2
theorem x12g:x1o0 c h u (x16w x28) r_2 eNil=j1 (xdg c h u) 0:=(tq (j1 (xdg c h u) 0) (sqN 1 (sq2 (kq (j0 (xmt c h u))) (tq (j1 (xmv c h u) 0) (sqN 1 (bk 0 (lq (xdf c h u) (λr=>j3 r 5 6 7) λrec0=>(kq (j3 (xmu c h u rec0) 5 6 7)))))))))
noncomputable abbrev x1o1:=VX x1g 21 r_19
theorem x12h:x1o1 c h u (x16w x1g) r_19 eNil=j3 (xdi c h u) 0 1 2:=(tq (j3 (xdi c h u) 0 1 2) (sqN 2 (sq2 (kq (j0 (xmx c h u))) (tq (j3 (xmz c h u) 0 1 2) (sqN 1 (bk 0 (lq (xdh c h u) (λr=>j4 r 0 1 11 12) λrec0=>(kq (j4 (xmy c h u rec0) 0 1 11 12)))))))))
noncomputable abbrev x1o2:=VX x57 10 r_18
theorem x12i:x1o2 c h u (x16w x57) r_18 eNil=j2 (xdj c h u) 0 1:=(kq (j2 (xdj c h u) 0 1))
noncomputable abbrev x1o3:=VX x38 100 r_2
theorem x12j:x1o3 c h u (x16w x38) r_2 eNil=j1 (xdn c h u) 0:=(tq (j1 (xdn c h u) 0) (sqN 3 (sq2 (tq (j1 (xn9 c h u) 0) (sqN 1 (sq2 (kq (j0 (xn0 c h u))) (tq (j1 (xn8 c h u) 7) (sqN 1 (bk 3 (lq (xdl c h u) (λr=>j4 r 7 43 44 45) λrec0=>(tq (j4 (xn7 c h u rec0) 7 43 44 45) (sqN 2 (sq2 (kq (j4 (xn1 c h u rec0) 7 43 44 45)) (bk 4 (tq (j4 (xn6 c h u rec0) 7 43 44 45) (sqN 2 (bk 5 (lq (xdk c h u rec0) (λr=>j9 r 7 8 9 43 44 45 52 53 54) λs=>(tq (j9 (xn5 c h u rec0 s) 7 8 9 43 44 45 52 53 54) (sqN 2 (sq2 (kq (j9 (xn2 c h u rec0 s) 7 8 9 43 44 45 52 53 54)) (bk 6 (tq (j9 (xn4 c h u rec0 s) 7 8 9 43 44 45 52 53 54) (sqN 2 (sq2 (kq (j10 (x9a c h u rec0 s) 7 8 9 12 43 44 45 52 53 54)) (kq (j11 (xn3 c h u rec0 s) 7 8 9 10 11 43 44 45 52 53 54)))))))))))))))))))))))) (tq (j2 (xnc c h u) 0 3) (sqN 1 (bk 1 (lq (xdm c h u) (λr=>j5 r 0 3 22 23 24) λw=>(kq (j5 (xna c h u w) 0 3 22 23 24)))))))))
noncomputable abbrev x1o4:=VX x1h 5 r_2
theorem x12k:x1o4 c h u (x16w x1h) r_2 eNil=j1 (xdo c h u) 0:=(kq (j1 (xdo c h u) 0))
noncomputable abbrev x1o5:=VX x29 10 r_0
theorem x12l:x1o5 c h u (x16w x29) r_0 eNil=j2 (xdp c h u) 0 1:=(kq (j2 (xdp c h u) 0 1))
noncomputable abbrev x1o6:=VX x58 10 r_18
theorem x12m:x1o6 c h u (x16w x58) r_18 eNil=j2 (xdq c h u) 0 1:=(kq (j2 (xdq c h u) 0 1))
noncomputable abbrev x1o7:=VX x59 10 r_18
theorem x12n:x1o7 c h u (x16w x59) r_18 eNil=j2 (xdr c h u) 0 1:=(kq (j2 (xdr c h u) 0 1))
noncomputable abbrev x1o8:=VX x5a 19 r_0
theorem x12o:x1o8 c h u (x16w x5a) r_0 eNil=j2 (xdt c h u) 0 1:=(tq (j2 (xdt c h u) 0 1) (sqN 1 (sq2 (kq (j0 (xnd c h u))) (tq (j2 (xnf c h u) 0 1) (sqN 1 (bk 0 (lq (xds c h u) (λr=>j4 r 0 1 7 8) λrec0=>(kq (j4 (xne c h u rec0) 0 1 7 8)))))))))
noncomputable abbrev x1o9:=VX x5b 9 r_18
theorem x12p:x1o9 c h u (x16w x5b) r_18 eNil=j2 (xdu c h u) 0 1:=(kq (j2 (xdu c h u) 0 1))
noncomputable abbrev x1oa:=VX x39 37 r_2
theorem x12q:x1oa c h u (x16w x39) r_2 eNil=j1 (xdv c h u) 0:=(kq (j1 (xdv c h u) 0))
noncomputable abbrev x1ob:=VX x2a 21 r_21
theorem x12r:x1ob c h u (x16w x2a) r_21 eNil=j1 (xdw c h u) 0:=(kq (j1 (xdw c h u) 0))
noncomputable abbrev x1oc:=VX x5c 113 r_0
theorem x12s:x1oc c h u (x16w x5c) r_0 eNil=j2 (xdz c h u) 0 1:=(tq (j2 (xdz c h u) 0 1) (sqN 7 (sq2 (kq (j3 (xng c h u) 0 10 11)) (tq (j4 (xnj c h u) 0 8 10 11) (sqN 1 (bk 1 (lq (xdy c h u) (λr=>j7 r 0 8 10 11 80 81 82) λrec0=>(tq (j7 (xni c h u rec0) 0 8 10 11 80 81 82) (sqN 2 (sq2 (kq (j7 (xdx c h u rec0) 0 8 10 11 80 81 82)) (kq (j7 (xnh c h u rec0) 0 8 10 11 80 81 82))))))))))))
noncomputable abbrev x1od:=VX x3a 58 r_19
theorem x12t:x1od c h u (x16w x3a) r_19 eNil=j3 (xe0 c h u) 0 1 2:=(kq (j3 (xe0 c h u) 0 1 2))
noncomputable abbrev x1oe:=VX x5d 9 r_2
theorem x12u:x1oe c h u (x16w x5d) r_2 eNil=j1 (xe1 c h u) 0:=(kq (j1 (xe1 c h u) 0))
noncomputable abbrev x1of:=VX x5e 42 r_16
theorem x12v:x1of c h u (x16w x5e) r_16 eNil=j3 (xe3 c h u) 0 1 2:=(tq (j3 (xe3 c h u) 0 1 2) (sqN 1 (bk 0 (lq (xe2 c h u) (λr=>j6 r 0 1 2 12 13 14) λrec0=>(kq (j6 (xnk c h u rec0) 0 1 2 12 13 14))))))
noncomputable abbrev x1og:=VX x5f 21 r_8
theorem x12w:x1og c h u (x16w x5f) r_8 eNil=j2 (xe4 c h u) 0 1:=(kq (j2 (xe4 c h u) 0 1))
noncomputable abbrev x1oh:=VX x5g 10 r_18
theorem x12x:x1oh c h u (x16w x5g) r_18 eNil=j2 (xe5 c h u) 0 1:=(kq (j2 (xe5 c h u) 0 1))
noncomputable abbrev x1oi:=VX x2b 5 r_2
theorem x12y:x1oi c h u (x16w x2b) r_2 eNil=j1 (xe6 c h u) 0:=(kq (j1 (xe6 c h u) 0))
noncomputable abbrev x1oj:=VX x14 5 r_2
theorem x12z:x1oj c h u (x16w x14) r_2 eNil=j1 (xe7 c h u) 0:=(kq (j1 (xe7 c h u) 0))
noncomputable abbrev x1ok:=VX x5h 6 r_2
theorem x130:x1ok c h u (x16w x5h) r_2 eNil=j1 (xe8 c h u) 0:=(kq (j1 (xe8 c h u) 0))
noncomputable abbrev x1ol:=VX x5i 81 r_0
theorem x131:x1ol c h u (x16w x5i) r_0 eNil=j2 (xeb c h u) 0 1:=(tq (j2 (xeb c h u) 0 1) (sqN 4 (sq2 (tq (j6 (xno c h u) 0 1 5 6 7 8) (sqN 1 (sq2 (kq (j0 (xnl c h u))) (tq (j6 (xnn c h u) 0 1 5 6 7 8) (sqN 1 (bk 2 (lq (xe9 c h u) (λr=>j7 r 0 1 5 6 7 8 10) λrec0=>(kq (j7 (xnm c h u rec0) 0 1 5 6 7 8 10))))))))) (tq (j6 (xnq c h u) 0 1 5 6 7 8) (sqN 1 (bk 0 (lq (xea c h u) (λr=>j7 r 0 1 5 6 7 8 9) λs=>(kq (j7 (xnp c h u s) 0 1 5 6 7 8 9)))))))))
noncomputable abbrev x1om:=VX x5j 15 r_2
theorem x132:x1om c h u (x16w x5j) r_2 eNil=j1 (xec c h u) 0:=(kq (j1 (xec c h u) 0))
noncomputable abbrev x1on:=VX x5k 15 r_2
theorem x133:x1on c h u (x16w x5k) r_2 eNil=j1 (xed c h u) 0:=(kq (j1 (xed c h u) 0))
noncomputable abbrev x1oo:=VX x5l 167 r_16
theorem x134:x1oo c h u (x16w x5l) r_16 eNil=j2 (xeh c h u) 0 1:=(tq (j2 (xeh c h u) 0 1) (sqN 1 (sq2 (tq (j3 (xns c h u) 0 1 4) (sqN 1 (sq2 (sq2 (kq (j3 (xee c h u) 0 4 12)) (kq (j3 (xef c h u) 0 4 12))) (kq (j3 (xnr c h u) 0 4 12))))) (bk 0 (lq (xeg c h u) (λr=>j3 r 0 1 4) λrec0=>(kq (j3 (xnt c h u rec0) 0 1 4)))))))
noncomputable abbrev x1op:=VX x5m 102 r_22
theorem x135:x1op c h u (x16w x5m) r_22 eNil=j5 (xen c h u) 0 1 2 3 4:=(tq (j5 (xen c h u) 0 1 2 3 4) (sqN 1 (sq2 (tq (j7 (xo2 c h u) 0 1 2 3 4 10 11) (sqN 2 (sq2 (sq2 (sq2 (kq (j6 (xei c h u) 0 4 10 11 12 13)) (kq (j7 (xej c h u) 0 3 4 10 11 12 13))) (tq (j9 (xem c h u) 0 1 2 3 4 10 11 12 13) (sqN 1 (tq (j10 (xo0 c h u) 0 1 2 3 4 10 11 12 13 34) (cd (tq (j9 (xnw c h u) 0 1 2 3 4 10 11 12 13) (sqN 3 (sq2 (kq (j8 (xnu c h u) 0 1 3 4 10 11 12 13)) (bk 0 (lq (xek c h u) (λr=>j11 r 0 1 3 4 10 11 12 13 14 15 16) λrec0=>(kq (j11 (xnv c h u rec0) 0 1 3 4 10 11 12 13 14 15 16))))))) (tq (j9 (xnz c h u) 0 1 2 3 4 10 11 12 13) (sqN 1 (sq2 (kq (j8 (xnx c h u) 0 1 3 4 10 11 12 13)) (bk 2 (lq (xel c h u) (λr=>j9 r 0 1 3 4 10 11 12 13 17) λs=>(kq (j9 (xny c h u s) 0 1 3 4 10 11 12 13 17)))))))))))) (kq (j9 (xo1 c h u) 0 1 2 3 4 10 11 12 13))))) (kq (j7 (xo3 c h u) 0 1 2 3 4 10 11)))))
noncomputable abbrev x1oq:=VX x5n 36 r_2
theorem x136:x1oq c h u (x16w x5n) r_2 eNil=j1 (xeo c h u) 0:=(kq (j1 (xeo c h u) 0))
noncomputable abbrev x1or:=VX xu 15 r_19
theorem x137:x1or c h u (x16w xu) r_19 eNil=j3 (xep c h u) 0 1 2:=(kq (j3 (xep c h u) 0 1 2))
noncomputable abbrev x1os:=VX x5o 42 r_0
theorem x138:x1os c h u (x16w x5o) r_0 eNil=j2 (xer c h u) 0 1:=(tq (j2 (xer c h u) 0 1) (sqN 3 (sq2 (kq (j1 (xo4 c h u) 6)) (tq (j4 (xo6 c h u) 1 2 5 6) (sqN 1 (bk 0 (lq (xeq c h u) (λr=>j6 r 1 5 6 14 15 16) λrec0=>(kq (j6 (xo5 c h u rec0) 1 5 6 14 15 16)))))))))
noncomputable abbrev x1ot:=VX x3b 38 r_0
theorem x139:x1ot c h u (x16w x3b) r_0 eNil=j2 (xeu c h u) 0 1:=(tq (j2 (xeu c h u) 0 1) (sqN 5 (sq2 (kq (j1 (xo7 c h u) 5)) (tq (j3 (xoa c h u) 5 6 8) (sqN 1 (bk 0 (lq (xet c h u) (λr=>j5 r 5 6 8 24 25) λrec0=>(tq (j5 (xo9 c h u rec0) 5 6 8 24 25) (sqN 2 (sq2 (kq (j5 (xes c h u rec0) 5 6 8 24 25)) (kq (j5 (xo8 c h u rec0) 5 6 8 24 25))))))))))))
noncomputable abbrev x1ou:=VX x5p 30 r_0
theorem x13a:x1ou c h u (x16w x5p) r_0 eNil=j2 (xex c h u) 0 1:=(tq (j2 (xex c h u) 0 1) (sqN 2 (sq2 (kq (j1 (xoc c h u) 5)) (tq (j3 (xof c h u) 1 2 5) (sqN 1 (bk 0 (lq (xew c h u) (λr=>j5 r 1 5 15 16 17) λrec0=>(tq (j5 (xoe c h u rec0) 1 5 15 16 17) (sqN 2 (sq2 (kq (j5 (xev c h u rec0) 1 5 15 16 17)) (kq (j5 (xod c h u rec0) 1 5 15 16 17))))))))))))
noncomputable abbrev x1ov:=VX x3c 12 r_2
theorem x13b:x1ov c h u (x16w x3c) r_2 eNil=j1 (xey c h u) 0:=(kq (j1 (xey c h u) 0))
noncomputable abbrev x1ow:=VX x2c 8 r_23
theorem x13c:x1ow c h u (x16w x2c) r_23 eNil=j1 (xez c h u) 0:=(kq (j1 (xez c h u) 0))
noncomputable abbrev x1ox:=VX x3d 48 r_0
theorem x13d:x1ox c h u (x16w x3d) r_0 eNil=j2 (xf1 c h u) 0 1:=(tq (j2 (xf1 c h u) 0 1) (sqN 2 (sq2 (kq (j1 (xog c h u) 5)) (tq (j3 (xoi c h u) 0 1 5) (sqN 1 (bk 0 (lq (xf0 c h u) (λr=>j6 r 0 1 5 9 10 11) λrec0=>(kq (j6 (xoh c h u rec0) 0 1 5 9 10 11)))))))))
noncomputable abbrev x1oy:=VX xj 21 r_0
theorem x13e:x1oy c h u (x16w xj) r_0 eNil=j2 (xf2 c h u) 0 1:=(kq (j2 (xf2 c h u) 0 1))
noncomputable abbrev x1oz:=VX x5q 47 r_0
theorem x13f:x1oz c h u (x16w x5q) r_0 eNil=j2 (xf3 c h u) 0 1:=(kq (j2 (xf3 c h u) 0 1))
noncomputable abbrev x1p0:=VX x5r 22 r_4
theorem x13g:x1p0 c h u (x16w x5r) r_4 eNil=j1 (xf4 c h u) 0:=(kq (j1 (xf4 c h u) 0))
noncomputable abbrev x1p1:=VX x1i 30 r_0
theorem x13h:x1p1 c h u (x16w x1i) r_0 eNil=j2 (xf6 c h u) 0 1:=(tq (j2 (xf6 c h u) 0 1) (sqN 1 (sq2 (kq (j0 (xol c h u))) (tq (j2 (xon c h u) 0 1) (sqN 1 (bk 0 (lq (xf5 c h u) (λr=>j4 r 0 9 10 11) λrec0=>(kq (j4 (xom c h u rec0) 0 9 10 11)))))))))
noncomputable abbrev x1p2:=VX x5s 24 r_4
theorem x13i:x1p2 c h u (x16w x5s) r_4 eNil=j1 (xf7 c h u) 0:=(kq (j1 (xf7 c h u) 0))
noncomputable abbrev x1p3:=VX x5t 18 r_4
theorem x13j:x1p3 c h u (x16w x5t) r_4 eNil=j1 (xf8 c h u) 0:=(kq (j1 (xf8 c h u) 0))
noncomputable abbrev x1p4:=VX x5u 22 r_4
theorem x13k:x1p4 c h u (x16w x5u) r_4 eNil=j1 (xf9 c h u) 0:=(kq (j1 (xf9 c h u) 0))
noncomputable abbrev x1p5:=VX x5v 8 r_4
theorem x13l:x1p5 c h u (x16w x5v) r_4 eNil=j1 (xfa c h u) 0:=(kq (j1 (xfa c h u) 0))
noncomputable abbrev x1p6:=VX x5w 8 r_4
theorem x13m:x1p6 c h u (x16w x5w) r_4 eNil=j1 (xfb c h u) 0:=(kq (j1 (xfb c h u) 0))
noncomputable abbrev x1p7:=VX x3e 26 r_4
theorem x13n:x1p7 c h u (x16w x3e) r_4 eNil=j1 (xfc c h u) 0:=(kq (j1 (xfc c h u) 0))
noncomputable abbrev x1p8:=VX x5x 8 r_0
theorem x13o:x1p8 c h u (x16w x5x) r_0 eNil=j2 (xfe c h u) 0 1:=(kq (j2 (xfe c h u) 0 1))
noncomputable abbrev x1p9:=VX x5y 8 r_2
theorem x13p:x1p9 c h u (x16w x5y) r_2 eNil=j1 (xff c h u) 0:=(kq (j1 (xff c h u) 0))
noncomputable abbrev x1pa:=VX x5z 8 r_0
theorem x13q:x1pa c h u (x16w x5z) r_0 eNil=j2 (xfg c h u) 0 1:=(kq (j2 (xfg c h u) 0 1))
noncomputable abbrev x1pb:=VX x60 9 r_0
theorem x13r:x1pb c h u (x16w x60) r_0 eNil=j2 (xfh c h u) 0 1:=(kq (j2 (xfh c h u) 0 1))
noncomputable abbrev x1pc:=VX x61 15 r_2
theorem x13s:x1pc c h u (x16w x61) r_2 eNil=j1 (xfj c h u) 0:=(tq (j1 (xfj c h u) 0) (sqN 1 (sq2 (kq (j0 (xov c h u))) (tq (j1 (xox c h u) 0) (sqN 1 (bk 0 (lq (xfi c h u) (λr=>j3 r 5 6 7) λrec0=>(kq (j3 (xow c h u rec0) 5 6 7)))))))))
noncomputable abbrev x1pd:=VX x62 47 r_0
theorem x13t:x1pd c h u (x16w x62) r_0 eNil=j2 (xfm c h u) 0 1:=(tq (j2 (xfm c h u) 0 1) (sqN 2 (sq2 (kq (j1 (xoy c h u) 5)) (tq (j3 (xp5 c h u) 0 3 5) (sqN 1 (bk 0 (lq (xfl c h u) (λr=>j5 r 3 5 9 10 11) λrec0=>(tq (j5 (xp4 c h u rec0) 3 5 9 10 11) (sqN 2 (sq2 (kq (j5 (x9d c h u rec0) 3 5 9 10 11)) (bk 1 (tq (j5 (xp3 c h u rec0) 3 5 9 10 11) (sqN 3 (tq (j7 (xp2 c h u rec0) 3 5 7 9 10 11 30) (cd (tq (j6 (xp0 c h u rec0) 3 5 7 9 10 11) (sqN 1 (sq2 (kq (j7 (xfk c h u rec0) 3 5 7 8 9 10 11)) (kq (j7 (xoz c h u rec0) 3 5 7 8 9 10 11))))) (kq (j5 (xp1 c h u rec0) 3 5 9 10 11)))))))))))))))))
noncomputable abbrev x1pe:=VX x63 39 r_4
theorem x13u:x1pe c h u (x16w x63) r_4 eNil=j1 (xfq c h u) 0:=(tq (j1 (xfq c h u) 0) (sqN 2 (sq2 (tq (j2 (xpb c h u) 0 4) (sqN 1 (sq2 (kq (j2 (xp6 c h u) 4 6)) (tq (j4 (xpa c h u) 0 4 6 7) (sqN 1 (bk 2 (lq (xfo c h u) (λr=>j4 r 4 6 7 8) λrec0=>(tq (j4 (xp9 c h u rec0) 4 6 7 8) (sqN 1 (sq2 (kq (j4 (xp7 c h u rec0) 4 6 7 8)) (bk 3 (sq2 (kq (j4 (xfn c h u rec0) 4 6 7 8)) (kq (j4 (xp8 c h u rec0) 4 6 7 8)))))))))))))) (tq (j2 (xpd c h u) 0 4) (sqN 1 (bk 0 (lq (xfp c h u) (λr=>j3 r 0 4 5) λs=>(kq (j3 (xpc c h u s) 0 4 5)))))))))
noncomputable abbrev x1pf:=VX x64 6 r_2
theorem x13v:x1pf c h u (x16w x64) r_2 eNil=j1 (xfr c h u) 0:=(kq (j1 (xfr c h u) 0))
noncomputable abbrev x1pg:=VX x3f 25 r_2
theorem x13w:x1pg c h u (x16w x3f) r_2 eNil=j1 (xfv c h u) 0:=(tq (j1 (xfv c h u) 0) (sqN 1 (sq2 (sq2 (sq2 (kq (j2 (xfs c h u) 0 2)) (kq (j2 (xft c h u) 0 2))) (kq (j2 (xfu c h u) 0 2))) (kq (j2 (xpe c h u) 0 2)))))
noncomputable abbrev x1ph:=VX x65 4 r_2
theorem x13x:x1ph c h u (x16w x65) r_2 eNil=j1 (xfw c h u) 0:=(kq (j1 (xfw c h u) 0))
noncomputable abbrev x1pi:=VX x66 8 r_2
theorem x13y:x1pi c h u (x16w x66) r_2 eNil=j1 (xfx c h u) 0:=(kq (j1 (xfx c h u) 0))
noncomputable abbrev x1pj:=VX x67 8 r_2
theorem x13z:x1pj c h u (x16w x67) r_2 eNil=j1 (xfy c h u) 0:=(kq (j1 (xfy c h u) 0))
noncomputable abbrev x1pk:=VX x68 11 r_2
theorem x140:x1pk c h u (x16w x68) r_2 eNil=j1 (xfz c h u) 0:=(kq (j1 (xfz c h u) 0))
noncomputable abbrev x1pl:=VX x3g 9 r_0
theorem x141:x1pl c h u (x16w x3g) r_0 eNil=j2 (xg0 c h u) 0 1:=(kq (j2 (xg0 c h u) 0 1))
noncomputable abbrev x1pm:=VX x69 6 r_2
theorem x142:x1pm c h u (x16w x69) r_2 eNil=j1 (xg1 c h u) 0:=(kq (j1 (xg1 c h u) 0))
noncomputable abbrev x1pn:=VX x3h 10 r_0
theorem x143:x1pn c h u (x16w x3h) r_0 eNil=j2 (xg2 c h u) 0 1:=(kq (j2 (xg2 c h u) 0 1))
noncomputable abbrev x1po:=VX x6a 6 r_2
theorem x144:x1po c h u (x16w x6a) r_2 eNil=j1 (xg3 c h u) 0:=(kq (j1 (xg3 c h u) 0))
noncomputable abbrev x1pp:=VX x6b 51 r_2
theorem x145:x1pp c h u (x16w x6b) r_2 eNil=j1 (xg7 c h u) 0:=(tq (j1 (xg7 c h u) 0) (sqN 2 (sq2 (tq (j3 (xpj c h u) 1 3 4) (sqN 2 (sq2 (kq (j1 (xpf c h u) 4)) (tq (j4 (xpi c h u) 1 3 4 6) (sqN 1 (bk 2 (lq (xg5 c h u) (λr=>j6 r 1 4 6 29 30 31) λrec0=>(tq (j6 (xph c h u rec0) 1 4 6 29 30 31) (sqN 2 (sq2 (kq (j6 (xg4 c h u rec0) 1 4 6 29 30 31)) (kq (j6 (xpg c h u rec0) 1 4 6 29 30 31)))))))))))) (tq (j3 (xpl c h u) 1 3 4) (sqN 1 (bk 0 (lq (xg6 c h u) (λr=>j5 r 1 3 4 12 13) λs=>(kq (j5 (xpk c h u s) 1 3 4 12 13)))))))))
noncomputable abbrev x1pq:=VX x6c 43 r_16
theorem x146:x1pq c h u (x16w x6c) r_16 eNil=j7 (xg9 c h u) 0 1 2 3 4 5 6:=(tq (j7 (xg9 c h u) 0 1 2 3 4 5 6) (sqN 3 (bk 0 (tq (j6 (xpo c h u) 1 4 5 6 7 16) (rg (.tmp 16) #[17,18] (λu=>(kq (j7 (xpm c h u) 1 4 5 6 7 8 9))) (λu=>(kq (j7 (xpn c h u) 1 4 5 6 7 17 18))))))))
noncomputable abbrev x1pr:=VX x6d 8 r_19
theorem x147:x1pr c h u (x16w x6d) r_19 eNil=j3 (xga c h u) 0 1 2:=(kq (j3 (xga c h u) 0 1 2))
noncomputable abbrev x1ps:=VX x3i 15 r_2
theorem x148:x1ps c h u (x16w x3i) r_2 eNil=j1 (xgc c h u) 0:=(tq (j1 (xgc c h u) 0) (sqN 2 (sq2 (kq (j1 (xpp c h u) 3)) (tq (j2 (xpr c h u) 0 3) (sqN 1 (bk 0 (lq (xgb c h u) (λr=>j3 r 3 5 6) λrec0=>(kq (j3 (xpq c h u rec0) 3 5 6)))))))))
noncomputable abbrev x1pt:=VX x3j 44 r_0
theorem x149:x1pt c h u (x16w x3j) r_0 eNil=j2 (xgf c h u) 0 1:=(tq (j2 (xgf c h u) 0 1) (sqN 2 (sq2 (kq (j2 (xps c h u) 5 6)) (tq (j3 (xpv c h u) 0 5 6) (sqN 1 (bk 0 (lq (xge c h u) (λr=>j6 r 0 5 6 19 20 21) λrec0=>(tq (j6 (xpu c h u rec0) 0 5 6 19 20 21) (sqN 2 (sq2 (kq (j6 (xgd c h u rec0) 0 5 6 19 20 21)) (kq (j6 (xpt c h u rec0) 0 5 6 19 20 21))))))))))))
noncomputable abbrev x1pu:=VX x6e 21 r_19
theorem x14a:x1pu c h u (x16w x6e) r_19 eNil=j3 (xgh c h u) 0 1 2:=(tq (j3 (xgh c h u) 0 1 2) (sqN 1 (sq2 (kq (j0 (xpw c h u))) (tq (j3 (xpy c h u) 0 1 2) (sqN 1 (bk 0 (lq (xgg c h u) (λr=>j5 r 0 1 9 10 11) λrec0=>(kq (j5 (xpx c h u rec0) 0 1 9 10 11)))))))))
noncomputable abbrev x1pv:=VX xv 22 r_0
theorem x14b:x1pv c h u (x16w xv) r_0 eNil=j2 (xgi c h u) 0 1:=(kq (j2 (xgi c h u) 0 1))
noncomputable abbrev x1pw:=VX x1j 16 r_24
theorem x14c:x1pw c h u (x16w x1j) r_24 eNil=j2 (xgj c h u) 0 1:=(kq (j2 (xgj c h u) 0 1))
noncomputable abbrev x1px:=VX x6f 16 r_0
theorem x14d:x1px c h u (x16w x6f) r_0 eNil=j2 (xgk c h u) 0 1:=(kq (j2 (xgk c h u) 0 1))
noncomputable abbrev x1py:=VX x6g 8 r_0
theorem x14e:x1py c h u (x16w x6g) r_0 eNil=j2 (xgl c h u) 0 1:=(kq (j2 (xgl c h u) 0 1))
noncomputable abbrev x1pz:=VX x3k 18 r_0
theorem x14f:x1pz c h u (x16w x3k) r_0 eNil=j2 (xgm c h u) 0 1:=(kq (j2 (xgm c h u) 0 1))
noncomputable abbrev x1q0:=VX x6h 66 r_25
theorem x14g:x1q0 c h u (x16w x6h) r_25 eNil=j4 (xgq c h u) 0 1 2 3:=(tq (j4 (xgq c h u) 0 1 2 3) (sqN 3 (sq2 (tq (j4 (xgp c h u) 0 1 2 3) (sqN 4 (sq2 (kq (j3 (xgn c h u) 0 9 10)) (bk 0 (lq (xgo c h u) (λr=>j6 r 0 1 2 3 9 10) λrec0=>(kq (j6 (xpz c h u rec0) 0 1 2 3 9 10))))))) (kq (j4 (xq0 c h u) 0 1 2 3)))))
noncomputable abbrev x1q1:=VX x6i 19 r_0
theorem x14h:x1q1 c h u (x16w x6i) r_0 eNil=j2 (xgs c h u) 0 1:=(tq (j2 (xgs c h u) 0 1) (sqN 1 (sq2 (kq (j0 (xq1 c h u))) (tq (j2 (xq3 c h u) 0 1) (sqN 1 (bk 0 (lq (xgr c h u) (λr=>j4 r 0 1 7 8) λrec0=>(kq (j4 (xq2 c h u rec0) 0 1 7 8)))))))))
noncomputable abbrev x1q2:=VX x6j 14 r_2
theorem x14i:x1q2 c h u (x16w x6j) r_2 eNil=j1 (xgt c h u) 0:=(kq (j1 (xgt c h u) 0))
noncomputable abbrev x1q3:=VX x6k 14 r_2
theorem x14j:x1q3 c h u (x16w x6k) r_2 eNil=j1 (xgu c h u) 0:=(kq (j1 (xgu c h u) 0))
noncomputable abbrev x1q4:=VX x6l 66 r_4
theorem x14k:x1q4 c h u (x16w x6l) r_4 eNil=j1 (xgw c h u) 0:=(tq (j1 (xgw c h u) 0) (sqN 4 (sq2 (kq (j0 (xq4 c h u))) (tq (j2 (xq7 c h u) 1 6) (sqN 1 (bk 0 (lq (xgv c h u) (λr=>j5 r 1 6 26 27 28) λrec0=>(kq (j5 (xq5 c h u rec0) 1 6 26 27 28)))))))))
noncomputable abbrev x1q5:=VX x4d 19 r_0
theorem x10e:x1q5 c h u (x16w x4d) r_0 eNil=j2 (xgy c h u) 0 1:=(tq (j2 (xgy c h u) 0 1) (sqN 1 (sq2 (kq (j0 (xq8 c h u))) (tq (j2 (xqa c h u) 0 1) (sqN 1 (bk 0 (lq (xgx c h u) (λr=>j4 r 0 1 7 8) λrec0=>(kq (j4 (xq9 c h u rec0) 0 1 7 8)))))))))
noncomputable abbrev x1q6:=VX x6m 9 r_16
theorem x14l:x1q6 c h u (x16w x6m) r_16 eNil=j2 (xgz c h u) 0 1:=(kq (j2 (xgz c h u) 0 1))
noncomputable abbrev x1q7:=VX x6n 13 r_26
theorem x14m:x1q7 c h u (x16w x6n) r_26 eNil=j3 (xh0 c h u) 0 1 2:=(kq (j3 (xh0 c h u) 0 1 2))
noncomputable abbrev x1q8:=VX x3l 41 r_0
theorem x14n:x1q8 c h u (x16w x3l) r_0 eNil=j2 (xh1 c h u) 0 1:=(kq (j2 (xh1 c h u) 0 1))
noncomputable abbrev x1q9:=VX x6o 11 r_16
theorem x14o:x1q9 c h u (x16w x6o) r_16 eNil=j1 (xh2 c h u) 0:=(kq (j1 (xh2 c h u) 0))
noncomputable abbrev x1qa:=VX x6p 43 r_16
theorem x14p:x1qa c h u (x16w x6p) r_16 eNil=j4 (xh5 c h u) 0 1 2 3:=(tq (j4 (xh5 c h u) 0 1 2 3) (sqN 1 (bk 0 (lq (xh4 c h u) (λr=>j6 r 0 2 3 12 13 14) λrec0=>(tq (j6 (xqf c h u rec0) 0 2 3 12 13 14) (sqN 2 (sq2 (kq (j6 (xqb c h u rec0) 0 2 3 12 13 14)) (bk 1 (tq (j6 (xqe c h u rec0) 0 2 3 12 13 14) (sqN 2 (bk 2 (lq (xh3 c h u rec0) (λr=>j9 r 0 2 3 6 12 13 14 18 19) λs=>(kq (j9 (xqc c h u rec0 s) 0 2 3 6 12 13 14 18 19))))))))))))))
noncomputable abbrev x1qb:=VX x6q 25 r_8
theorem x14q:x1qb c h u (x16w x6q) r_8 eNil=j2 (xh6 c h u) 0 1:=(kq (j2 (xh6 c h u) 0 1))
noncomputable abbrev x1qc:=VX x6r 15 r_19
theorem x14r:x1qc c h u (x16w x6r) r_19 eNil=j3 (xh7 c h u) 0 1 2:=(kq (j3 (xh7 c h u) 0 1 2))
noncomputable abbrev x1qd:=VX x6s 16 r_0
theorem x14s:x1qd c h u (x16w x6s) r_0 eNil=j2 (xh8 c h u) 0 1:=(kq (j2 (xh8 c h u) 0 1))
noncomputable abbrev x1qe:=VX xah 77 r_4
theorem x14t:x1qe c h u (x16w xah) r_4 eNil=j1 (xhc c h u) 0:=(tq (j1 (xhc c h u) 0) (sqN 2 (sq2 (kq (j1 (xqg c h u) 0)) (tq (j2 (xqo c h u) 0 4) (sqN 1 (tq (j2 (xqn c h u) 0 30) (cd (tq (j1 (xql c h u) 0) (sqN 1 (sq2 (tq (j2 (xhb c h u) 0 5) (sqN 1 (sq2 (sq2 (kq (j1 (xh9 c h u) 6)) (kq (j2 (xqh c h u) 5 6))) (tq (j3 (xqj c h u) 0 5 6) (sqN 1 (bk 0 (lq (xha c h u) (λr=>j5 r 5 6 47 48 49) λrec0=>(kq (j5 (xqi c h u rec0) 5 6 47 48 49))))))))) (kq (j2 (xqk c h u) 0 5))))) (kq (j1 (xqm c h u) 0)))))))))
noncomputable abbrev x1qf:=VX xai 43 r_27
theorem x14u:x1qf c h u (x16w xai) r_27 eNil=j5 (xhd c h u) 0 1 2 3 4:=(kq (j5 (xhd c h u) 0 1 2 3 4))
noncomputable abbrev x1qg:=VX x6t 13 r_0
theorem x14v:x1qg c h u (x16w x6t) r_0 eNil=j2 (xhe c h u) 0 1:=(kq (j2 (xhe c h u) 0 1))
noncomputable abbrev x1qh:=VX x6u 50 r_0
theorem x14w:x1qh c h u (x16w x6u) r_0 eNil=j2 (xhi c h u) 0 1:=(tq (j2 (xhi c h u) 0 1) (sqN 2 (sq2 (tq (j2 (xhh c h u) 0 1) (sqN 1 (sq2 (sq2 (kq (j1 (xhf c h u) 6)) (kq (j3 (xqp c h u) 0 1 6))) (tq (j3 (xqr c h u) 0 1 6) (sqN 1 (bk 0 (lq (xhg c h u) (λr=>j4 r 0 1 6 7) λrec0=>(kq (j4 (xqq c h u rec0) 0 1 6 7))))))))) (kq (j3 (xqs c h u) 0 1 5)))))
noncomputable abbrev x1qi:=VX x6v 34 r_0
theorem x14x:x1qi c h u (x16w x6v) r_0 eNil=j2 (xhk c h u) 0 1:=(tq (j2 (xhk c h u) 0 1) (sqN 4 (bk 0 (lq (xhj c h u) (λr=>j3 r 0 1 5) λrec0=>(kq (j3 (xqt c h u rec0) 0 1 5))))))
noncomputable abbrev x1qj:=VX x6w 42 r_4
theorem x14y:x1qj c h u (x16w x6w) r_4 eNil=j1 (xhm c h u) 0:=(tq (j1 (xhm c h u) 0) (sqN 2 (sq2 (kq (j0 (xqu c h u))) (tq (j1 (xqw c h u) 0) (sqN 1 (bk 0 (lq (xhl c h u) (λr=>j4 r 0 9 10 11) λrec0=>(kq (j4 (xqv c h u rec0) 0 9 10 11)))))))))
noncomputable abbrev x1qk:=VX x6x 63 r_16
theorem x14z:x1qk c h u (x16w x6x) r_16 eNil=j3 (xhr c h u) 0 1 2:=(tq (j3 (xhr c h u) 0 1 2) (sqN 2 (sq2 (tq (j5 (xr1 c h u) 0 1 2 6 7) (sqN 1 (bk 2 (lq (xhp c h u) (λr=>j4 r 0 1 2 6) λrec0=>(tq (j4 (xr0 c h u rec0) 0 1 2 6) (sqN 1 (bk 3 (tq (j4 (xqz c h u rec0) 0 1 2 6) (sqN 1 (sq2 (sq2 (kq (j4 (xhn c h u rec0) 0 1 2 6)) (kq (j5 (xqx c h u rec0) 0 1 2 6 7))) (bk 4 (lq (xho c h u rec0) (λr=>j6 r 0 1 2 6 7 8) λs=>(kq (j6 (xqy c h u rec0 s) 0 1 2 6 7 8)))))))))))))) (bk 0 (lq (xhq c h u) (λr=>j6 r 0 1 2 6 7 8) λw=>(kq (j6 (xr2 c h u w) 0 1 2 6 7 8)))))))
noncomputable abbrev x1ql:=VX x3m 7 r_2
theorem x150:x1ql c h u (x16w x3m) r_2 eNil=j1 (xhs c h u) 0:=(kq (j1 (xhs c h u) 0))
noncomputable abbrev x1qm:=VX x2d 134 r_16
theorem x151:x1qm c h u (x16w x2d) r_16 eNil=j4 (xhx c h u) 0 1 2 3:=(tq (j4 (xhx c h u) 0 1 2 3) (sqN 2 (bk 0 (lq (xhw c h u) (λr=>j6 r 0 1 2 3 8 9) λrec0=>(bk 1 (tq (j6 (xr5 c h u rec0) 0 1 2 3 8 9) (sqN 3 (sq2 (tq (j7 (xhv c h u rec0) 0 1 2 3 8 9 10) (sqN 1 (sq2 (sq2 (kq (j8 (xht c h u rec0) 0 1 2 3 8 9 10 11)) (kq (j9 (xhu c h u rec0) 0 1 2 3 8 9 10 11 12))) (kq (j9 (xr3 c h u rec0) 0 1 2 3 8 9 10 11 12))))) (kq (j7 (xr4 c h u rec0) 0 1 2 3 8 9 10))))))))))
noncomputable abbrev x1qn:=VX x3n 8 r_2
theorem x152:x1qn c h u (x16w x3n) r_2 eNil=j1 (xhy c h u) 0:=(kq (j1 (xhy c h u) 0))
noncomputable abbrev x1qo:=VX x6y 73 r_28
theorem x153:x1qo c h u (x16w x6y) r_28 eNil=j3 (xi1 c h u) 0 1 2:=(tq (j3 (xi1 c h u) 0 1 2) (sqN 3 (sq2 (tq (j4 (x9f c h u) 0 1 2 8) (sqN 3 (sq2 (tq (j3 (xi0 c h u) 2 8 9) (sqN 4 (sq2 (kq (j1 (xhz c h u) 11)) (kq (j2 (xr6 c h u) 8 11))))) (kq (j3 (xr7 c h u) 2 8 9))))) (kq (j4 (xr8 c h u) 0 1 2 8)))))
noncomputable abbrev x1qp:=VX x6z 11 r_0
theorem x154:x1qp c h u (x16w x6z) r_0 eNil=j2 (xi2 c h u) 0 1:=(kq (j2 (xi2 c h u) 0 1))
noncomputable abbrev x1qq:=VX x70 11 r_0
theorem x155:x1qq c h u (x16w x70) r_0 eNil=j2 (xi3 c h u) 0 1:=(kq (j2 (xi3 c h u) 0 1))
noncomputable abbrev x1qr:=VX x71 16 r_19
theorem x156:x1qr c h u (x16w x71) r_19 eNil=j3 (xi4 c h u) 0 1 2:=(kq (j3 (xi4 c h u) 0 1 2))
noncomputable abbrev x1qs:=VX x72 16 r_19
theorem x157:x1qs c h u (x16w x72) r_19 eNil=j3 (xi5 c h u) 0 1 2:=(kq (j3 (xi5 c h u) 0 1 2))
noncomputable abbrev x1qt:=VX x3o 10 r_2
theorem x158:x1qt c h u (x16w x3o) r_2 eNil=j1 (xi6 c h u) 0:=(tq (j1 (xi6 c h u) 0) (sqN 1 (sq2 (kq (j1 (x109 c h u) 2)) (tq (j2 (xrb c h u) 0 2) (sqN 1 (bk 0 (lq (xra c h u) (λr=>j2 r 2 4) λrec0=>(kq (j2 (xr9 c h u rec0) 2 4)))))))))
noncomputable abbrev x1qu:=VX x73 19 r_4
theorem x159:x1qu c h u (x16w x73) r_4 eNil=j1 (xi7 c h u) 0:=(kq (j1 (xi7 c h u) 0))
noncomputable abbrev x1qv:=VX x74 49 r_2
theorem x15a:x1qv c h u (x16w x74) r_2 eNil=j1 (xib c h u) 0:=(tq (j1 (xib c h u) 0) (sqN 2 (sq2 (kq (j0 (xrc c h u))) (tq (j1 (xrg c h u) 0) (sqN 1 (bk 0 (lq (xia c h u) (λr=>j3 r 13 14 15) λrec0=>(tq (j3 (xrf c h u rec0) 13 14 15) (sqN 2 (sq2 (kq (j3 (xi8 c h u rec0) 13 14 15)) (bk 1 (tq (j3 (xre c h u rec0) 13 14 15) (sqN 1 (bk 2 (sq2 (kq (j6 (xi9 c h u rec0) 3 4 13 14 15 20)) (kq (j5 (xrd c h u rec0) 3 4 13 14 15)))))))))))))))))
noncomputable abbrev x1qw:=VX x75 9 r_0
theorem x15b:x1qw c h u (x16w x75) r_0 eNil=j2 (xic c h u) 0 1:=(kq (j2 (xic c h u) 0 1))
noncomputable abbrev x1qx:=VX x76 9 r_18
theorem x15c:x1qx c h u (x16w x76) r_18 eNil=j2 (xid c h u) 0 1:=(kq (j2 (xid c h u) 0 1))
noncomputable abbrev x1qy:=VX x3p 53 r_16
theorem x15d:x1qy c h u (x16w x3p) r_16 eNil=j4 (xig c h u) 0 1 2 3:=(tq (j4 (xig c h u) 0 1 2 3) (sqN 1 (bk 0 (lq (xif c h u) (λr=>j5 r 0 1 2 3 8) λrec0=>(tq (j5 (xrk c h u rec0) 0 1 2 3 8) (sqN 1 (sq2 (kq (j5 (xrh c h u rec0) 0 1 2 3 8)) (bk 1 (tq (j5 (xrj c h u rec0) 0 1 2 3 8) (sqN 1 (bk 2 (lq (xie c h u rec0) (λr=>j6 r 0 1 2 3 8 9) λs=>(kq (j6 (xri c h u rec0 s) 0 1 2 3 8 9))))))))))))))
noncomputable abbrev x1qz:=VX x1k 220 r_16
theorem x15e:x1qz c h u (x16w x1k) r_16 eNil=j5 (xip c h u) 0 1 2 3 4:=(sq2 (sq2 (tq (j5 (xrp c h u) 0 1 2 3 4) (sqN 3 (sq2 (tq (j9 (xik c h u) 0 1 2 3 4 18 19 20 21) (sqN 1 (sq2 (tq (j8 (xrm c h u) 0 1 2 3 4 18 19 20) (sqN 1 (sq2 (sq2 (kq (j5 (xih c h u) 0 3 4 18 24)) (kq (j7 (xii c h u) 0 1 3 4 18 20 24))) (kq (j8 (xrl c h u) 0 1 2 3 4 18 20 24))))) (bk 8 (lq (xij c h u) (λr=>j10 r 0 1 2 3 4 18 19 20 21 22) λrec0=>(kq (j10 (xrn c h u rec0) 0 1 2 3 4 18 19 20 21 22))))))) (kq (j7 (xro c h u) 0 1 2 3 4 18 19))))) (tq (j5 (xrx c h u) 0 1 2 3 4) (sqN 1 (tq (j6 (xrw c h u) 0 1 2 3 4 80) (cd (tq (j4 (xru c h u) 0 1 2 4) (sqN 2 (sq2 (sq2 (kq (j0 (xrq c h u))) (tq (j3 (xrs c h u) 0 2 14) (sqN 1 (bk 6 (lq (xil c h u) (λr=>j3 r 0 14 17) λs=>(kq (j3 (xrr c h u s) 0 14 17))))))) (bk 4 (lq (xim c h u) (λr=>j5 r 0 2 4 14 15) λw=>(kq (j5 (xrt c h u w) 0 2 4 14 15))))))) (kq (j5 (xrv c h u) 0 1 2 3 4))))))) (tq (j5 (xip c h u) 0 1 2 3 4) (sqN 1 (tq (j6 (xs4 c h u) 0 1 2 3 4 28) (cd (tq (j5 (xs2 c h u) 0 1 2 3 4) (sqN 2 (sq2 (sq2 (kq (j0 (xry c h u))) (tq (j3 (xs0 c h u) 0 1 10) (sqN 1 (bk 2 (lq (xin c h u) (λr=>j3 r 0 10 13) λz=>(kq (j3 (xrz c h u z) 0 10 13))))))) (bk 0 (lq (xio c h u) (λr=>j5 r 0 1 4 10 11) λy=>(kq (j5 (xs1 c h u y) 0 1 4 10 11))))))) (kq (j5 (xs3 c h u) 0 1 2 3 4)))))))
noncomputable abbrev x1r0:=VX x77 49 r_16
theorem x15f:x1r0 c h u (x16w x77) r_16 eNil=j3 (xis c h u) 0 1 2:=(tq (j3 (xis c h u) 0 1 2) (sqN 1 (bk 0 (lq (xir c h u) (λr=>j4 r 0 1 2 6) λrec0=>(tq (j4 (xs8 c h u rec0) 0 1 2 6) (sqN 1 (sq2 (kq (j4 (xs5 c h u rec0) 0 1 2 6)) (bk 1 (tq (j4 (xs7 c h u rec0) 0 1 2 6) (sqN 1 (bk 2 (lq (xiq c h u rec0) (λr=>j5 r 0 1 2 6 7) λs=>(kq (j5 (xs6 c h u rec0 s) 0 1 2 6 7))))))))))))))
noncomputable abbrev x1r1:=VX x78 56 r_16
theorem x15g:x1r1 c h u (x16w x78) r_16 eNil=j3 (xiv c h u) 0 1 2:=(tq (j3 (xiv c h u) 0 1 2) (sqN 3 (sq2 (tq (j4 (xsa c h u) 0 6 7 8) (sqN 1 (bk 2 (lq (xit c h u) (λr=>j4 r 0 6 7 10) λrec0=>(kq (j4 (xs9 c h u rec0) 0 6 7 10)))))) (tq (j4 (xsc c h u) 0 6 7 8) (sqN 1 (bk 0 (lq (xiu c h u) (λr=>j5 r 0 6 7 8 9) λs=>(kq (j5 (xsb c h u s) 0 6 7 8 9)))))))))
noncomputable abbrev x1r2:=VX x79 65 r_16
theorem x15h:x1r2 c h u (x16w x79) r_16 eNil=j3 (xiy c h u) 0 1 2:=(tq (j3 (xiy c h u) 0 1 2) (sqN 2 (tq (j4 (xsj c h u) 0 1 6 15) (cd (tq (j3 (xsh c h u) 0 1 6) (sqN 3 (bk 0 (lq (xix c h u) (λr=>j6 r 0 1 6 7 8 9) λrec0=>(tq (j6 (xsg c h u rec0) 0 1 6 7 8 9) (sqN 1 (sq2 (kq (j6 (xsd c h u rec0) 0 1 6 7 8 9)) (bk 1 (tq (j6 (xsf c h u rec0) 0 1 6 7 8 9) (sqN 1 (sq2 (kq (j7 (xiw c h u rec0) 0 1 6 7 8 9 10)) (kq (j7 (xse c h u rec0) 0 1 6 7 8 9 10))))))))))))) (kq (j0 (xsi c h u)))))))
noncomputable abbrev x1r3:=VX x7a 57 r_28
theorem x15i:x1r3 c h u (x16w x7a) r_28 eNil=j3 (xj1 c h u) 0 1 2:=(tq (j3 (xj1 c h u) 0 1 2) (sqN 6 (sq2 (kq (j2 (xiz c h u) 9 11)) (tq (j6 (xsn c h u) 0 8 9 10 11 12) (sqN 1 (tq (j7 (xsm c h u) 0 8 9 10 11 12 32) (cd (sq2 (kq (j5 (xj0 c h u) 0 9 10 11 12)) (kq (j6 (xsk c h u) 0 8 9 10 11 12))) (kq (j2 (xsl c h u) 9 11)))))))))
noncomputable abbrev x1r4:=VX x7b 32 r_16
theorem x15j:x1r4 c h u (x16w x7b) r_16 eNil=j3 (xj3 c h u) 0 1 2:=(tq (j3 (xj3 c h u) 0 1 2) (sqN 2 (bk 0 (lq (xj2 c h u) (λr=>j3 r 0 6 7) λrec0=>(kq (j3 (xso c h u rec0) 0 6 7))))))
noncomputable abbrev x1r5:=VX x7c 133 r_19
theorem x15k:x1r5 c h u (x16w x7c) r_19 eNil=j3 (xj8 c h u) 0 1 2:=(tq (j3 (xj8 c h u) 0 1 2) (sqN 2 (sq2 (kq (j0 (xsp c h u))) (tq (j4 (xt2 c h u) 0 1 2 7) (sqN 1 (bk 0 (lq (xj7 c h u) (λr=>j5 r 0 1 2 7 8) λrec0=>(tq (j5 (xt1 c h u rec0) 0 1 2 7 8) (sqN 1 (sq2 (kq (j5 (x9h c h u rec0) 0 1 2 7 8)) (bk 1 (sq2 (tq (j5 (xsz c h u rec0) 0 1 2 7 8) (sqN 3 (sq2 (tq (j5 (x9i c h u rec0) 0 1 2 7 8) (sqN 1 (tq (j6 (xst c h u rec0) 0 1 2 7 8 98) (cd (tq (j5 (xsr c h u rec0) 0 1 2 7 8) (sqN 1 (bk 6 (lq (xj4 c h u rec0) (λr=>j6 r 0 1 2 7 8 10) λs=>(kq (j6 (xsq c h u rec0 s) 0 1 2 7 8 10)))))) (kq (j5 (xss c h u rec0) 0 1 2 7 8)))))) (tq (j5 (xsy c h u rec0) 0 1 2 7 8) (sqN 1 (tq (j6 (xsx c h u rec0) 0 1 2 7 8 61) (cd (tq (j5 (xsv c h u rec0) 0 1 2 7 8) (sqN 1 (bk 4 (lq (xj5 c h u rec0) (λr=>j6 r 0 1 2 7 8 9) λw=>(kq (j6 (xsu c h u rec0 w) 0 1 2 7 8 9)))))) (kq (j5 (xsw c h u rec0) 0 1 2 7 8))))))))) (bk 2 (lq (xj6 c h u rec0) (λr=>j5 r 0 1 2 7 8) λz=>(kq (j5 (xt0 c h u rec0 z) 0 1 2 7 8))))))))))))))))
noncomputable abbrev x1r6:=VX xc 17 r_0
theorem x15l:x1r6 c h u (x16w xc) r_0 eNil=j2 (xj9 c h u) 0 1:=(kq (j2 (xj9 c h u) 0 1))
noncomputable abbrev x1r7:=VX x7d 84 r_25
theorem x15m:x1r7 c h u (x16w x7d) r_25 eNil=j4 (xjd c h u) 0 1 2 3:=(tq (j4 (xjd c h u) 0 1 2 3) (sqN 3 (sq2 (kq (j1 (xt3 c h u) 9)) (bk 0 (lq (xjc c h u) (λr=>j4 r 0 1 9 10) λrec0=>(bk 1 (sq2 (sq2 (kq (j4 (xt4 c h u rec0) 0 1 9 10)) (bk 4 (lq (xja c h u rec0) (λr=>j4 r 0 1 9 10) λs=>(kq (j4 (xt5 c h u rec0 s) 0 1 9 10))))) (bk 2 (lq (xjb c h u rec0) (λr=>j4 r 0 1 9 10) λw=>(kq (j4 (xt6 c h u rec0 w) 0 1 9 10)))))))))))
noncomputable abbrev x1r8:=VX x7e 168 r_29
theorem x15n:x1r8 c h u (x16w x7e) r_29 eNil=j4 (xjj c h u) 0 1 2 3:=(tq (j4 (xjj c h u) 0 1 2 3) (sqN 3 (sq2 (sq2 (tq (j4 (xtb c h u) 0 1 10 11) (sqN 4 (sq2 (kq (j3 (xt7 c h u) 0 1 11)) (bk 4 (lq (xjg c h u) (λr=>j4 r 0 1 10 11) λrec0=>(bk 5 (sq2 (sq2 (kq (j4 (xt8 c h u rec0) 0 1 10 11)) (bk 8 (lq (xje c h u rec0) (λr=>j4 r 0 1 10 11) λs=>(kq (j4 (xt9 c h u rec0 s) 0 1 10 11))))) (bk 6 (lq (xjf c h u rec0) (λr=>j4 r 0 1 10 11) λw=>(kq (j4 (xta c h u rec0 w) 0 1 10 11))))))))))) (bk 2 (lq (xjh c h u) (λr=>j4 r 0 1 10 11) λz=>(kq (j4 (xtc c h u z) 0 1 10 11))))) (bk 0 (lq (xji c h u) (λr=>j4 r 0 1 10 11) λy=>(kq (j4 (xtd c h u y) 0 1 10 11)))))))
noncomputable abbrev x1r9:=VX x7f 19 r_2
theorem x15o:x1r9 c h u (x16w x7f) r_2 eNil=j1 (xjm c h u) 0:=(tq (j1 (xjm c h u) 0) (sqN 1 (sq2 (sq2 (kq (j2 (xjk c h u) 0 2)) (kq (j2 (xjl c h u) 0 2))) (kq (j2 (xte c h u) 0 2)))))
noncomputable abbrev x1ra:=VX x7g 172 r_28
theorem x15p:x1ra c h u (x16w x7g) r_28 eNil=j3 (xjr c h u) 0 1 2:=(tq (j3 (xjr c h u) 0 1 2) (sqN 4 (sq2 (sq2 (tq (j5 (xjq c h u) 0 1 2 8 9) (sqN 1 (sq2 (tq (j6 (x9j c h u) 0 1 2 8 9 10) (sqN 3 (sq2 (kq (j3 (xtf c h u) 9 12 13)) (tq (j8 (xtj c h u) 0 1 8 9 10 11 12 13) (sqN 1 (bk 3 (lq (xjp c h u) (λr=>j10 r 1 8 9 10 11 12 13 99 100 101) λrec0=>(tq (j10 (xti c h u rec0) 1 8 9 10 11 12 13 99 100 101) (sqN 2 (sq2 (kq (j10 (xjn c h u rec0) 1 8 9 10 11 12 13 99 100 101)) (bk 4 (tq (j10 (xth c h u rec0) 1 8 9 10 11 12 13 99 100 101) (sqN 2 (sq2 (kq (j11 (xjo c h u rec0) 1 8 9 10 11 12 13 16 99 100 101)) (kq (j11 (xtg c h u rec0) 1 8 9 10 11 12 13 15 99 100 101)))))))))))))))) (kq (j5 (xtk c h u) 0 1 2 8 9))))) (kq (j5 (x1s c h u) 0 1 2 8 9))) (kq (j5 (xtl c h u) 0 1 2 8 9)))))
noncomputable abbrev x1rb:=VX x1l 18 r_2
theorem x15q:x1rb c h u (x16w x1l) r_2 eNil=j1 (xjs c h u) 0:=(kq (j1 (xjs c h u) 0))
noncomputable abbrev x1rc:=VX x3q 7 r_2
theorem x15r:x1rc c h u (x16w x3q) r_2 eNil=j1 (xjt c h u) 0:=(kq (j1 (xjt c h u) 0))
noncomputable abbrev x1rd:=VX x7h 117 r_4
theorem x15s:x1rd c h u (x16w x7h) r_4 eNil=j1 (xju c h u) 0:=(kq (j1 (xju c h u) 0))
noncomputable abbrev x1re:=VX x7i 19 r_0
theorem x15t:x1re c h u (x16w x7i) r_0 eNil=j2 (xjw c h u) 0 1:=(tq (j2 (xjw c h u) 0 1) (sqN 1 (sq2 (kq (j0 (xtm c h u))) (tq (j2 (xto c h u) 0 1) (sqN 1 (bk 0 (lq (xjv c h u) (λr=>j4 r 0 1 7 8) λrec0=>(kq (j4 (xtn c h u rec0) 0 1 7 8)))))))))
noncomputable abbrev x1rf:=VX x7j 58 r_16
theorem x15u:x1rf c h u (x16w x7j) r_16 eNil=j5 (xjy c h u) 0 1 2 3 4:=(tq (j5 (xjy c h u) 0 1 2 3 4) (sqN 2 (sq2 (kq (j4 (xtp c h u) 0 2 4 10)) (bk 0 (lq (xjx c h u) (λr=>j5 r 0 2 4 10 11) λrec0=>(kq (j5 (xtq c h u rec0) 0 2 4 10 11)))))))
noncomputable abbrev x1rg:=VX x3r 76 r_16
theorem x15v:x1rg c h u (x16w x3r) r_16 eNil=j4 (xk1 c h u) 0 1 2 3:=(tq (j4 (xk1 c h u) 0 1 2 3) (sqN 1 (bk 0 (lq (xk0 c h u) (λr=>j4 r 0 2 3 8) λrec0=>(bk 1 (tq (j4 (xts c h u rec0) 0 2 3 8) (sqN 2 (sq2 (kq (j5 (xjz c h u rec0) 0 2 3 8 9)) (kq (j5 (xtr c h u rec0) 0 2 3 8 9))))))))))
noncomputable abbrev x1rh:=VX x7k 7 r_2
theorem x15w:x1rh c h u (x16w x7k) r_2 eNil=j1 (xk2 c h u) 0:=(kq (j1 (xk2 c h u) 0))
noncomputable abbrev x1ri:=VX x7l 33 r_2
theorem x15x:x1ri c h u (x16w x7l) r_2 eNil=j1 (xk3 c h u) 0:=(kq (j1 (xk3 c h u) 0))
noncomputable abbrev x1rj:=VX x2e 15 r_19
theorem x15y:x1rj c h u (x16w x2e) r_19 eNil=j3 (xk4 c h u) 0 1 2:=(kq (j3 (xk4 c h u) 0 1 2))
noncomputable abbrev x1rk:=VX x3s 36 r_27
theorem x15z:x1rk c h u (x16w x3s) r_27 eNil=j5 (xk5 c h u) 0 1 2 3 4:=(kq (j5 (xk5 c h u) 0 1 2 3 4))
noncomputable abbrev x1rl:=VX x3t 6 r_2
theorem x160:x1rl c h u (x16w x3t) r_2 eNil=j1 (xk6 c h u) 0:=(kq (j1 (xk6 c h u) 0))
noncomputable abbrev x1rm:=VX xf 5 r_2
theorem x161:x1rm c h u (x16w xf) r_2 eNil=j1 (xk7 c h u) 0:=(kq (j1 (xk7 c h u) 0))
noncomputable abbrev x1rn:=VX x7m 94 r_2
theorem x162:x1rn c h u (x16w x7m) r_2 eNil=j1 (xk9 c h u) 0:=(tq (j1 (xk9 c h u) 0) (sqN 3 (sq2 (tq (j3 (xk8 c h u) 0 3 4) (sqN 1 (sq2 (sq2 (kq (j1 (xtt c h u) 3)) (bk 0 (lq (x9l c h u) (λr=>j4 r 0 3 4 5) λrec0=>(tq (j4 (xtv c h u rec0) 0 3 4 5) (sqN 1 (sq2 (kq (j4 (x9k c h u rec0) 0 3 4 5)) (kq (j4 (xtu c h u rec0) 0 3 4 5)))))))) (kq (j4 (xtw c h u) 0 3 4 5))))) (kq (j3 (xtx c h u) 0 3 4)))))
noncomputable abbrev x1ro:=VX x2f 38 r_16
theorem x163:x1ro c h u (x16w x2f) r_16 eNil=j4 (xkb c h u) 0 1 2 3:=(tq (j4 (xkb c h u) 0 1 2 3) (sqN 1 (bk 0 (lq (xka c h u) (λr=>j5 r 0 1 2 3 10) λrec0=>(kq (j5 (xty c h u rec0) 0 1 2 3 10))))))
noncomputable abbrev x1rp:=VX x2g 28 r_29
theorem x164:x1rp c h u (x16w x2g) r_29 eNil=j4 (xkc c h u) 0 1 2 3:=(kq (j4 (xkc c h u) 0 1 2 3))
end Go.Ix
