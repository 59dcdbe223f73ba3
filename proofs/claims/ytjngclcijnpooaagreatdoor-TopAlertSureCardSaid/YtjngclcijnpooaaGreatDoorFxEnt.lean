import Derived.Test.YtjngclcijnpooaaGreatDoorFxText0
import Derived.Test.YtjngclcijnpooaaGreatDoorFxText1
set_option linter.all false
noncomputable section
namespace Go.Ix
open Go.Proofs
def ke:aU:=λc h a m=>match a with
 |[b,d,e]=>OZ c h m.next b d e ⟨m.hp,m.next+1⟩ 0
 |_=>none
def rt:aU:=λc h a m=>match a with
 |[b]=>WN c h m.next b ⟨m.hp,m.next+1⟩ 0
 |_=>none
def ru:aU:=λc h a m=>match a with
 |[b]=>WR c h m.next b ⟨m.hp,m.next+1⟩ 0
 |_=>none
def oz:aU:=λc h a m=>match a with
 |[b]=>TM c h m.next b ⟨m.hp,m.next+1⟩ 0
 |_=>none
def sw:aU:=λc h a m=>match a with
 |[b,d]=>XR c h m.next b d ⟨m.hp,m.next+1⟩ 0
 |_=>none
def rp:aU:=λc h a m=>match a with
 |[b,d,e]=>WK c h m.next b d e ⟨m.hp,m.next+1⟩ 0
 |_=>none
def ow:aU:=λc h a m=>match a with
 |[b]=>TI c h m.next b ⟨m.hp,m.next+1⟩ 0
 |_=>none
def oy:aU:=λc h a m=>match a with
 |[b]=>TL c h m.next b ⟨m.hp,m.next+1⟩ 0
 |_=>none
def rj:aU:=λc h a m=>match a with
 |[b,d]=>VZ c h m.next b d ⟨m.hp,m.next+1⟩ 0
 |_=>none
def xld:aU:=λc h a m=>match a with
 |[b,d]=>xac c h m.next b d ⟨m.hp,m.next+1⟩ 0
 |_=>none
def rk:aU:=λc h a m=>match a with
 |[b,d,e]=>WA c h m.next b d e ⟨m.hp,m.next+1⟩ 0
 |_=>none
def su:aU:=λc h a m=>match a with
 |[b]=>XQ c h m.next b ⟨m.hp,m.next+1⟩ 0
 |_=>none
def ov:aU:=λc h a m=>match a with
 |[b]=>TF c h m.next b ⟨m.hp,m.next+1⟩ 0
 |_=>none
def OV:aU:=λc h a m=>match a with
 |[b,d,e]=>IS c h m.next b d e ⟨m.hp,m.next+1⟩ 0
 |_=>none
def ou:aU:=λc h a m=>match a with
 |[b]=>TD c h m.next b ⟨m.hp,m.next+1⟩ 0
 |_=>none
def oq:aU:=λc h a m=>match a with
 |[b]=>SZ c h m.next b ⟨m.hp,m.next+1⟩ 0
 |_=>none
def ot:aU:=λc h a m=>match a with
 |[b]=>TB c h m.next b ⟨m.hp,m.next+1⟩ 0
 |_=>none
def px:aU:=λc h a m=>match a with
 |[b,d]=>UI c h m.next b d ⟨m.hp,m.next+1⟩ 0
 |_=>none
def OR:aU:=λc h a m=>match a with
 |[b,d]=>IJ c h m.next b d ⟨m.hp,m.next+1⟩ 0
 |_=>none
def ri:aU:=λc h a m=>match a with
 |[b,d]=>VY c h m.next b d ⟨m.hp,m.next+1⟩ 0
 |_=>none
def ro:aU:=λc h a m=>match a with
 |[b]=>WB c h m.next b ⟨m.hp,m.next+1⟩ 0
 |_=>none
def ON:aU:=λc h a m=>match a with
 |[b]=>IC c h m.next b ⟨m.hp,m.next+1⟩ 0
 |_=>none
def OP:aU:=λc h a m=>match a with
 |[b,d]=>IH c h m.next b d ⟨m.hp,m.next+1⟩ 0
 |_=>none
def qa:aU:=λc h a m=>match a with
 |[b,d,e]=>UN c h m.next b d e ⟨m.hp,m.next+1⟩ 0
 |_=>none
def oc:aU:=λc h a m=>match a with
 |[b]=>SO c h m.next b ⟨m.hp,m.next+1⟩ 0
 |_=>none
def oa:aU:=λc h a m=>match a with
 |[b]=>SN c h m.next b ⟨m.hp,m.next+1⟩ 0
 |_=>none
def ko:aU:=λc h a m=>match a with
 |[b,d]=>PK c h m.next b d ⟨m.hp,m.next+1⟩ 0
 |_=>none
def qd:aU:=λc h a m=>match a with
 |[b]=>UQ c h m.next b ⟨m.hp,m.next+1⟩ 0
 |_=>none
def qg:aU:=λc h a m=>match a with
 |[b,d]=>UU c h m.next b d ⟨m.hp,m.next+1⟩ 0
 |_=>none
def sx:aU:=λc h a m=>match a with
 |[b]=>XS c h m.next b ⟨m.hp,m.next+1⟩ 0
 |_=>none
def pj:aU:=λc h a m=>match a with
 |[b]=>UA c h m.next b ⟨m.hp,m.next+1⟩ 0
 |_=>none
def pi:aU:=λc h a m=>match a with
 |[b]=>TT c h m.next b ⟨m.hp,m.next+1⟩ 0
 |_=>none
def OL:aU:=λc h a m=>match a with
 |[b,d]=>HY c h m.next b d ⟨m.hp,m.next+1⟩ 0
 |_=>none
def OQ:aU:=λc h a m=>match a with
 |[b,d]=>II c h m.next b d ⟨m.hp,m.next+1⟩ 0
 |_=>none
def rf:aU:=λc h a m=>match a with
 |[b,d]=>VU c h m.next b d ⟨m.hp,m.next+1⟩ 0
 |_=>none
def oo:aU:=λc h a m=>match a with
 |[b,d]=>SY c h m.next b d ⟨m.hp,m.next+1⟩ 0
 |_=>none
def re:aU:=λc h a m=>match a with
 |[b,d,e]=>VT c h m.next b d e ⟨m.hp,m.next+1⟩ 0
 |_=>none
def pm:aU:=λc h a m=>match a with
 |[b]=>UC c h m.next b ⟨m.hp,m.next+1⟩ 0
 |_=>none
def pk:aU:=λc h a m=>match a with
 |[b,d,e]=>UB c h m.next b d e ⟨m.hp,m.next+1⟩ 0
 |_=>none
def qp:aU:=λc h a m=>match a with
 |[b]=>VF c h m.next b ⟨m.hp,m.next+1⟩ 0
 |_=>none
def pz:aU:=λc h a m=>match a with
 |[b,d,e]=>UL c h m.next b d e ⟨m.hp,m.next+1⟩ 0
 |_=>none
def rn:aU:=λc h a m=>match a with
 |[b,d]=>WI c h m.next b d ⟨m.hp,m.next+1⟩ 0
 |_=>none
def sq:aU:=λc h a m=>match a with
 |[b]=>XL c h m.next b ⟨m.hp,m.next+1⟩ 0
 |_=>none
def xlc:aU:=λc h a m=>match a with
 |[b]=>xu c h m.next b ⟨m.hp,m.next+1⟩ 0
 |_=>none
def OM:aU:=λc h a m=>match a with
 |[b,d]=>IA c h m.next b d ⟨m.hp,m.next+1⟩ 0
 |_=>none
def rm:aU:=λc h a m=>match a with
 |[b,d]=>WH c h m.next b d ⟨m.hp,m.next+1⟩ 0
 |_=>none
def rl:aU:=λc h a m=>match a with
 |[b,d]=>WF c h m.next b d ⟨m.hp,m.next+1⟩ 0
 |_=>none
def OO:aU:=λc h a m=>match a with
 |[b,d,e]=>IG c h m.next b d e ⟨m.hp,m.next+1⟩ 0
 |_=>none
def sp:aU:=λc h a m=>match a with
 |[b,d]=>XH c h m.next b d ⟨m.hp,m.next+1⟩ 0
 |_=>none
def qz:aU:=λc h a m=>match a with
 |[b,d]=>VS c h m.next b d ⟨m.hp,m.next+1⟩ 0
 |_=>none
def kr:aU:=λc h a m=>match a with
 |[b,d]=>PM c h m.next b d ⟨m.hp,m.next+1⟩ 0
 |_=>none
def rz:aU:=λc h a m=>match a with
 |[b,d]=>WV c h m.next b d ⟨m.hp,m.next+1⟩ 0
 |_=>none
def nj:aU:=λc h a m=>match a with
 |[b,d]=>RW c h m.next b d ⟨m.hp,m.next+1⟩ 0
 |_=>none
def qf:aU:=λc h a m=>match a with
 |[b,d]=>UV c h m.next b d ⟨m.hp,m.next+1⟩ 0
 |_=>none
def qu:aU:=λc h a m=>match a with
 |[b]=>VM c h m.next b ⟨m.hp,m.next+1⟩ 0
 |_=>none
def qh:aU:=λc h a m=>match a with
 |[b,d]=>UW c h m.next b d ⟨m.hp,m.next+1⟩ 0
 |_=>none
def rh:aU:=λc h a m=>match a with
 |[b,d,e]=>VW c h m.next b d e ⟨m.hp,m.next+1⟩ 0
 |_=>none
def od:aU:=λc h a m=>match a with
 |[b]=>SP c h m.next b ⟨m.hp,m.next+1⟩ 0
 |_=>none
def pg:aU:=λc h a m=>match a with
 |[b,d,e]=>TS c h m.next b d e ⟨m.hp,m.next+1⟩ 0
 |_=>none
def pe:aU:=λc h a m=>match a with
 |[b,d,e,f]=>TQ c h m.next b d e f ⟨m.hp,m.next+1⟩ 0
 |_=>none
def pf:aU:=λc h a m=>match a with
 |[b]=>TR c h m.next b ⟨m.hp,m.next+1⟩ 0
 |_=>none
def qv:aU:=λc h a m=>match a with
 |[b,d]=>VN c h m.next b d ⟨m.hp,m.next+1⟩ 0
 |_=>none
def mi:aU:=λc h a m=>match a with
 |[b,d]=>QX c h m.next b d ⟨m.hp,m.next+1⟩ 0
 |_=>none
def om:aU:=λc h a m=>match a with
 |[b]=>SX c h m.next b ⟨m.hp,m.next+1⟩ 0
 |_=>none
def oj:aU:=λc h a m=>match a with
 |[b,d,e]=>SV c h m.next b d e ⟨m.hp,m.next+1⟩ 0
 |_=>none
def sm:aU:=λc h a m=>match a with
 |[b]=>XE c h m.next b ⟨m.hp,m.next+1⟩ 0
 |_=>none
def sb:aU:=λc h a m=>match a with
 |[b,d]=>WX c h m.next b d ⟨m.hp,m.next+1⟩ 0
 |_=>none
def si:aU:=λc h a m=>match a with
 |[b,d]=>XB c h m.next b d ⟨m.hp,m.next+1⟩ 0
 |_=>none
def se:aU:=λc h a m=>match a with
 |[b,d]=>XA c h m.next b d ⟨m.hp,m.next+1⟩ 0
 |_=>none
def sk:aU:=λc h a m=>match a with
 |[b]=>XD c h m.next b ⟨m.hp,m.next+1⟩ 0
 |_=>none
def sj:aU:=λc h a m=>match a with
 |[b,d]=>IR c h m.next b d ⟨m.hp,m.next+1⟩ 0
 |_=>none
def ni:aU:=λc h a m=>match a with
 |[b,d]=>RV c h m.next b d ⟨m.hp,m.next+1⟩ 0
 |_=>none
def qy:aU:=λc h a m=>match a with
 |[b,d]=>VR c h m.next b d ⟨m.hp,m.next+1⟩ 0
 |_=>none
def kj:aU:=λc h a m=>match a with
 |[b,d]=>PH c h m.next b d ⟨m.hp,m.next+1⟩ 0
 |_=>none
def ry:aU:=λc h a m=>match a with
 |[b,d]=>WU c h m.next b d ⟨m.hp,m.next+1⟩ 0
 |_=>none
def OT:aU:=λc h a m=>match a with
 |[b,d]=>IN c h m.next b d ⟨m.hp,m.next+1⟩ 0
 |_=>none
def qo:aU:=λc h a m=>match a with
 |[b]=>VE c h m.next b ⟨m.hp,m.next+1⟩ 0
 |_=>none
def qe:aU:=λc h a m=>match a with
 |[b,d]=>US c h m.next b d ⟨m.hp,m.next+1⟩ 0
 |_=>none
def qn:aU:=λc h a m=>match a with
 |[b]=>VD c h m.next b ⟨m.hp,m.next+1⟩ 0
 |_=>none
def qm:aU:=λc h a m=>match a with
 |[b]=>VC c h m.next b ⟨m.hp,m.next+1⟩ 0
 |_=>none
def ql:aU:=λc h a m=>match a with
 |[b]=>VB c h m.next b ⟨m.hp,m.next+1⟩ 0
 |_=>none
def qk:aU:=λc h a m=>match a with
 |[b]=>VA c h m.next b ⟨m.hp,m.next+1⟩ 0
 |_=>none
def qj:aU:=λc h a m=>match a with
 |[b]=>UZ c h m.next b ⟨m.hp,m.next+1⟩ 0
 |_=>none
def py:aU:=λc h a m=>match a with
 |[b]=>UK c h m.next b ⟨m.hp,m.next+1⟩ 0
 |_=>none
def km:aU:=λc h a m=>match a with
 |[b,d]=>PJ c h m.next b d ⟨m.hp,m.next+1⟩ 0
 |_=>none
def nz:aU:=λc h a m=>match a with
 |[b]=>SL c h m.next b ⟨m.hp,m.next+1⟩ 0
 |_=>none
def ki:aU:=λc h a m=>match a with
 |[b,d]=>PG c h m.next b d ⟨m.hp,m.next+1⟩ 0
 |_=>none
def nq:aU:=λc h a m=>match a with
 |[b,d]=>SF c h m.next b d ⟨m.hp,m.next+1⟩ 0
 |_=>none
def pd:aU:=λc h a m=>match a with
 |[b,d,e]=>TP c h m.next b d e ⟨m.hp,m.next+1⟩ 0
 |_=>none
def pb:aU:=λc h a m=>match a with
 |[b,d,e]=>TN c h m.next b d e ⟨m.hp,m.next+1⟩ 0
 |_=>none
def mo:aU:=λc h a m=>match a with
 |[b]=>RA c h m.next b ⟨m.hp,m.next+1⟩ 0
 |_=>none
def ks:aU:=λc h a m=>match a with
 |[b,d,e]=>PN c h m.next b d e ⟨m.hp,m.next+1⟩ 0
 |_=>none
def li:aU:=λc h a m=>match a with
 |[b,d]=>QE c h m.next b d ⟨m.hp,m.next+1⟩ 0
 |_=>none
def lh:aU:=λc h a m=>match a with
 |[b,d]=>QA c h m.next b d ⟨m.hp,m.next+1⟩ 0
 |_=>none
def lu:aU:=λc h a m=>match a with
 |[b,d]=>QL c h m.next b d ⟨m.hp,m.next+1⟩ 0
 |_=>none
def ol:aU:=λc h a m=>match a with
 |[b,d]=>SW c h m.next b d ⟨m.hp,m.next+1⟩ 0
 |_=>none
def sn:aU:=λc h a m=>match a with
 |[b,d,e]=>XF c h m.next b d e ⟨m.hp,m.next+1⟩ 0
 |_=>none
def sd:aU:=λc h a m=>match a with
 |[b,d]=>WZ c h m.next b d ⟨m.hp,m.next+1⟩ 0
 |_=>none
def kh:aU:=λc h a m=>match a with
 |[b,d]=>PF c h m.next b d ⟨m.hp,m.next+1⟩ 0
 |_=>none
def OU:aU:=λc h a m=>match a with
 |[b,d]=>IP c h m.next b d ⟨m.hp,m.next+1⟩ 0
 |_=>none
def kf:aU:=λc h a m=>match a with
 |[b,d,e,f]=>PD c h m.next b d e f ⟨m.hp,m.next+1⟩ 0
 |_=>none
def ng:aU:=λc h a m=>match a with
 |[b,d]=>RN c h m.next b d ⟨m.hp,m.next+1⟩ 0
 |_=>none
def pc:aU:=λc h a m=>match a with
 |[b]=>TO c h m.next b ⟨m.hp,m.next+1⟩ 0
 |_=>none
def kz:aU:=λc h a m=>match a with
 |[b]=>PV c h m.next b ⟨m.hp,m.next+1⟩ 0
 |_=>none
def nu:aU:=λc h a m=>match a with
 |[b,d]=>SH c h m.next b d ⟨m.hp,m.next+1⟩ 0
 |_=>none
def ml:aU:=λc h a m=>match a with
 |[b]=>QZ c h m.next b ⟨m.hp,m.next+1⟩ 0
 |_=>none
def kw:aU:=λc h a m=>match a with
 |[b,d]=>PR c h m.next b d ⟨m.hp,m.next+1⟩ 0
 |_=>none
def mj:aU:=λc h a m=>match a with
 |[b]=>QY c h m.next b ⟨m.hp,m.next+1⟩ 0
 |_=>none
def lm:aU:=λc h a m=>match a with
 |[b]=>QG c h m.next b ⟨m.hp,m.next+1⟩ 0
 |_=>none
def lg:aU:=λc h a m=>match a with
 |[b,d,e,f,g,i,j]=>QC c h m.next b d e f g i j ⟨m.hp,m.next+1⟩ 0
 |_=>none
def ma:aU:=λc h a m=>match a with
 |[b,d,e]=>QQ c h m.next b d e ⟨m.hp,m.next+1⟩ 0
 |_=>none
def ky:aU:=λc h a m=>match a with
 |[b]=>PT c h m.next b ⟨m.hp,m.next+1⟩ 0
 |_=>none
def ku:aU:=λc h a m=>match a with
 |[b,d]=>PO c h m.next b d ⟨m.hp,m.next+1⟩ 0
 |_=>none
def sa:aU:=λc h a m=>match a with
 |[b,d,e]=>WW c h m.next b d e ⟨m.hp,m.next+1⟩ 0
 |_=>none
def rq:aU:=λc h a m=>match a with
 |[b]=>zm c h m.next b ⟨m.hp,m.next+1⟩ 0
 |_=>none
def rx:aU:=λc h a m=>match a with
 |[b,d]=>WT c h m.next b d ⟨m.hp,m.next+1⟩ 0
 |_=>none
def kp:aU:=λc h a m=>match a with
 |[b,d]=>PL c h m.next b d ⟨m.hp,m.next+1⟩ 0
 |_=>none
def mr:aU:=λc h a m=>match a with
 |[b]=>RB c h m.next b ⟨m.hp,m.next+1⟩ 0
 |_=>none
def OJ:aU:=λc h a m=>match a with
 |[b,d]=>HW c h m.next b d ⟨m.hp,m.next+1⟩ 0
 |_=>none
def nf:aU:=λc h a m=>match a with
 |[b,d]=>RM c h m.next b d ⟨m.hp,m.next+1⟩ 0
 |_=>none
def lj:aU:=λc h a m=>match a with
 |[b,d,e]=>QJ c h m.next b d e ⟨m.hp,m.next+1⟩ 0
 |_=>none
def ln:aU:=λc h a m=>match a with
 |[b,d]=>QK c h m.next b d ⟨m.hp,m.next+1⟩ 0
 |_=>none
def nc:aU:=λc h a m=>match a with
 |[b]=>RL c h m.next b ⟨m.hp,m.next+1⟩ 0
 |_=>none
def lz:aU:=λc h a m=>match a with
 |[b,d,e,f]=>QN c h m.next b d e f ⟨m.hp,m.next+1⟩ 0
 |_=>none
def md:aU:=λc h a m=>match a with
 |[b,d]=>QR c h m.next b d ⟨m.hp,m.next+1⟩ 0
 |_=>none
def mh:aU:=λc h a m=>match a with
 |[b]=>QS c h m.next b ⟨m.hp,m.next+1⟩ 0
 |_=>none
def mu:aU:=λc h a m=>match a with
 |[b,d,e]=>RD c h m.next b d e ⟨m.hp,m.next+1⟩ 0
 |_=>none
def kx:aU:=λc h a m=>match a with
 |[b]=>PS c h m.next b ⟨m.hp,m.next+1⟩ 0
 |_=>none
def mw:aU:=λc h a m=>match a with
 |[b,d,e,f]=>RE c h m.next b d e f ⟨m.hp,m.next+1⟩ 0
 |_=>none
def rr:aU:=λc h a m=>match a with
 |[b]=>WL c h m.next b ⟨m.hp,m.next+1⟩ 0
 |_=>none
def lc:aU:=λc h a m=>match a with
 |[b]=>PW c h m.next b ⟨m.hp,m.next+1⟩ 0
 |_=>none
def nv:aU:=λc h a m=>match a with
 |[b,d]=>SI c h m.next b d ⟨m.hp,m.next+1⟩ 0
 |_=>none
def mf:aU:=λc h a m=>match a with
 |[b,d]=>QT c h m.next b d ⟨m.hp,m.next+1⟩ 0
 |_=>none
def na:aU:=λc h a m=>match a with
 |[b,d,e,f]=>RI c h m.next b d e f ⟨m.hp,m.next+1⟩ 0
 |_=>none
def mz:aU:=λc h a m=>match a with
 |[b,d,e]=>RF c h m.next b d e ⟨m.hp,m.next+1⟩ 0
 |_=>none
def ss:aU:=λc h a m=>match a with
 |[b,d]=>XP c h m.next b d ⟨m.hp,m.next+1⟩ 0
 |_=>none
def OK:aU:=λc h a m=>match a with
 |[b,d]=>HX c h m.next b d ⟨m.hp,m.next+1⟩ 0
 |_=>none
def sr:aU:=λc h a m=>match a with
 |[b]=>XO c h m.next b ⟨m.hp,m.next+1⟩ 0
 |_=>none
def pu:aU:=λc h a m=>match a with
 |[b,d,e]=>UF c h m.next b d ⟨m.hp,m.next+1⟩ 0
 |_=>none
def pq:aU:=λc h a m=>match a with
 |[b,d]=>UE c h m.next b d ⟨m.hp,m.next+1⟩ 0
 |_=>none
def og:aU:=λc h a m=>match a with
 |[b]=>SS c h m.next b ⟨m.hp,m.next+1⟩ 0
 |_=>none
def pw:aU:=λc h a m=>match a with
 |[b,d,e]=>UH c h m.next b d ⟨m.hp,m.next+1⟩ 0
 |_=>none
def qx:aU:=λc h a m=>match a with
 |[b,d]=>VQ c h m.next b d ⟨m.hp,m.next+1⟩ 0
 |_=>none
def nw:aU:=λc h a m=>match a with
 |[b,d]=>SJ c h m.next b d ⟨m.hp,m.next+1⟩ 0
 |_=>none
def pv:aU:=λc h a m=>match a with
 |[b,d]=>UG c h m.next b d ⟨m.hp,m.next+1⟩ 0
 |_=>none
def oh:aU:=λc h a m=>match a with
 |[b]=>ST c h m.next b ⟨m.hp,m.next+1⟩ 0
 |_=>none
def qw:aU:=λc h a m=>match a with
 |[b,d]=>VP c h m.next b d ⟨m.hp,m.next+1⟩ 0
 |_=>none
def nk:aU:=λc h a m=>match a with
 |[b,d]=>RX c h m.next b d ⟨m.hp,m.next+1⟩ 0
 |_=>none
def qq:aU:=λc h a m=>match a with
 |[b,d,e]=>VH c h m.next b d ⟨m.hp,m.next+1⟩ 0
 |_=>none
def qc:aU:=λc h a m=>match a with
 |[b,d,e]=>UP c h m.next b d e ⟨m.hp,m.next+1⟩ 0
 |_=>none
def ny:aU:=λc h a m=>match a with
 |[b,d]=>SK c h m.next b d ⟨m.hp,m.next+1⟩ 0
 |_=>none
def qb:aU:=λc h a m=>match a with
 |[b,d]=>UO c h m.next b d ⟨m.hp,m.next+1⟩ 0
 |_=>none
def oi:aU:=λc h a m=>match a with
 |[b]=>SU c h m.next b ⟨m.hp,m.next+1⟩ 0
 |_=>none
def nl:aU:=λc h a m=>match a with
 |[b,d]=>RY c h m.next b d ⟨m.hp,m.next+1⟩ 0
 |_=>none
def qr:aU:=λc h a m=>match a with
 |[b,d,e]=>VJ c h m.next b d ⟨m.hp,m.next+1⟩ 0
 |_=>none
def nr:aU:=λc h a m=>match a with
 |[b,d]=>SG c h m.next b d ⟨m.hp,m.next+1⟩ 0
 |_=>none
def oe:aU:=λc h a m=>match a with
 |[b]=>SQ c h m.next b ⟨m.hp,m.next+1⟩ 0
 |_=>none
def nh:aU:=λc h a m=>match a with
 |[b,d]=>RP c h m.next b d ⟨m.hp,m.next+1⟩ 0
 |_=>none
def qt:aU:=λc h a m=>match a with
 |[b,d,e]=>VL c h m.next b d ⟨m.hp,m.next+1⟩ 0
 |_=>none
def np:aU:=λc h a m=>match a with
 |[b,d]=>SB c h m.next b d ⟨m.hp,m.next+1⟩ 0
 |_=>none
def qs:aU:=λc h a m=>match a with
 |[b,d]=>VK c h m.next b d ⟨m.hp,m.next+1⟩ 0
 |_=>none
end Go.Ix
