import Derived.Test.YtjngclcijnpooaaGreatDoorFxText0
import Derived.Test.YtjngclcijnpooaaGreatDoorFxText1
noncomputable section
namespace Go.Ix
open Go.Proofs
def kc:aU:=λc h a m=>match a with
 |[b,d,e]=>OY c h m.next b d e ⟨m.hp,m.next+1⟩ 0
 |_=>none
def rr:aU:=λc h a m=>match a with
 |[b]=>WL c h m.next b ⟨m.hp,m.next+1⟩ 0
 |_=>none
def rt:aU:=λc h a m=>match a with
 |[b]=>WQ c h m.next b ⟨m.hp,m.next+1⟩ 0
 |_=>none
def oy:aU:=λc h a m=>match a with
 |[b]=>TL c h m.next b ⟨m.hp,m.next+1⟩ 0
 |_=>none
def su:aU:=λc h a m=>match a with
 |[b,d]=>XQ c h m.next b d ⟨m.hp,m.next+1⟩ 0
 |_=>none
def ro:aU:=λc h a m=>match a with
 |[b,d,e]=>WJ c h m.next b d e ⟨m.hp,m.next+1⟩ 0
 |_=>none
def ov:aU:=λc h a m=>match a with
 |[b]=>TH c h m.next b ⟨m.hp,m.next+1⟩ 0
 |_=>none
def ow:aU:=λc h a m=>match a with
 |[b]=>TK c h m.next b ⟨m.hp,m.next+1⟩ 0
 |_=>none
def ri:aU:=λc h a m=>match a with
 |[b,d]=>VY c h m.next b d ⟨m.hp,m.next+1⟩ 0
 |_=>none
def xlc:aU:=λc h a m=>match a with
 |[b,d]=>xab c h m.next b d ⟨m.hp,m.next+1⟩ 0
 |_=>none
def rj:aU:=λc h a m=>match a with
 |[b,d,e]=>VZ c h m.next b d e ⟨m.hp,m.next+1⟩ 0
 |_=>none
def ss:aU:=λc h a m=>match a with
 |[b]=>XP c h m.next b ⟨m.hp,m.next+1⟩ 0
 |_=>none
def ou:aU:=λc h a m=>match a with
 |[b]=>TE c h m.next b ⟨m.hp,m.next+1⟩ 0
 |_=>none
def OU:aU:=λc h a m=>match a with
 |[b,d,e]=>IR c h m.next b d e ⟨m.hp,m.next+1⟩ 0
 |_=>none
def ot:aU:=λc h a m=>match a with
 |[b]=>TC c h m.next b ⟨m.hp,m.next+1⟩ 0
 |_=>none
def oo:aU:=λc h a m=>match a with
 |[b]=>SY c h m.next b ⟨m.hp,m.next+1⟩ 0
 |_=>none
def oq:aU:=λc h a m=>match a with
 |[b]=>TA c h m.next b ⟨m.hp,m.next+1⟩ 0
 |_=>none
def pw:aU:=λc h a m=>match a with
 |[b,d]=>UH c h m.next b d ⟨m.hp,m.next+1⟩ 0
 |_=>none
def OQ:aU:=λc h a m=>match a with
 |[b,d]=>II c h m.next b d ⟨m.hp,m.next+1⟩ 0
 |_=>none
def rh:aU:=λc h a m=>match a with
 |[b,d]=>VW c h m.next b d ⟨m.hp,m.next+1⟩ 0
 |_=>none
def rn:aU:=λc h a m=>match a with
 |[b]=>WA c h m.next b ⟨m.hp,m.next+1⟩ 0
 |_=>none
def OM:aU:=λc h a m=>match a with
 |[b]=>IB c h m.next b ⟨m.hp,m.next+1⟩ 0
 |_=>none
def OO:aU:=λc h a m=>match a with
 |[b,d]=>IG c h m.next b d ⟨m.hp,m.next+1⟩ 0
 |_=>none
def pz:aU:=λc h a m=>match a with
 |[b,d,e]=>UM c h m.next b d e ⟨m.hp,m.next+1⟩ 0
 |_=>none
def oa:aU:=λc h a m=>match a with
 |[b]=>SN c h m.next b ⟨m.hp,m.next+1⟩ 0
 |_=>none
def nz:aU:=λc h a m=>match a with
 |[b]=>SL c h m.next b ⟨m.hp,m.next+1⟩ 0
 |_=>none
def km:aU:=λc h a m=>match a with
 |[b,d]=>PJ c h m.next b d ⟨m.hp,m.next+1⟩ 0
 |_=>none
def qc:aU:=λc h a m=>match a with
 |[b]=>UP c h m.next b ⟨m.hp,m.next+1⟩ 0
 |_=>none
def qf:aU:=λc h a m=>match a with
 |[b,d]=>UT c h m.next b d ⟨m.hp,m.next+1⟩ 0
 |_=>none
def sw:aU:=λc h a m=>match a with
 |[b]=>XR c h m.next b ⟨m.hp,m.next+1⟩ 0
 |_=>none
def pi:aU:=λc h a m=>match a with
 |[b]=>TZ c h m.next b ⟨m.hp,m.next+1⟩ 0
 |_=>none
def pg:aU:=λc h a m=>match a with
 |[b]=>TS c h m.next b ⟨m.hp,m.next+1⟩ 0
 |_=>none
def OK:aU:=λc h a m=>match a with
 |[b,d]=>HX c h m.next b d ⟨m.hp,m.next+1⟩ 0
 |_=>none
def OP:aU:=λc h a m=>match a with
 |[b,d]=>IH c h m.next b d ⟨m.hp,m.next+1⟩ 0
 |_=>none
def re:aU:=λc h a m=>match a with
 |[b,d]=>VT c h m.next b d ⟨m.hp,m.next+1⟩ 0
 |_=>none
def om:aU:=λc h a m=>match a with
 |[b,d]=>SX c h m.next b d ⟨m.hp,m.next+1⟩ 0
 |_=>none
def qz:aU:=λc h a m=>match a with
 |[b,d,e]=>VS c h m.next b d e ⟨m.hp,m.next+1⟩ 0
 |_=>none
def pk:aU:=λc h a m=>match a with
 |[b]=>UB c h m.next b ⟨m.hp,m.next+1⟩ 0
 |_=>none
def pj:aU:=λc h a m=>match a with
 |[b,d,e]=>UA c h m.next b d e ⟨m.hp,m.next+1⟩ 0
 |_=>none
def qo:aU:=λc h a m=>match a with
 |[b]=>VE c h m.next b ⟨m.hp,m.next+1⟩ 0
 |_=>none
def py:aU:=λc h a m=>match a with
 |[b,d,e]=>UK c h m.next b d e ⟨m.hp,m.next+1⟩ 0
 |_=>none
def rm:aU:=λc h a m=>match a with
 |[b,d]=>WH c h m.next b d ⟨m.hp,m.next+1⟩ 0
 |_=>none
def sp:aU:=λc h a m=>match a with
 |[b]=>XJ c h m.next b ⟨m.hp,m.next+1⟩ 0
 |_=>none
def xlb:aU:=λc h a m=>match a with
 |[b]=>xt c h m.next b ⟨m.hp,m.next+1⟩ 0
 |_=>none
def OL:aU:=λc h a m=>match a with
 |[b,d]=>HZ c h m.next b d ⟨m.hp,m.next+1⟩ 0
 |_=>none
def rl:aU:=λc h a m=>match a with
 |[b,d]=>WG c h m.next b d ⟨m.hp,m.next+1⟩ 0
 |_=>none
def rk:aU:=λc h a m=>match a with
 |[b,d]=>WE c h m.next b d ⟨m.hp,m.next+1⟩ 0
 |_=>none
def ON:aU:=λc h a m=>match a with
 |[b,d,e]=>IF c h m.next b d e ⟨m.hp,m.next+1⟩ 0
 |_=>none
def sn:aU:=λc h a m=>match a with
 |[b,d]=>XG c h m.next b d ⟨m.hp,m.next+1⟩ 0
 |_=>none
def qy:aU:=λc h a m=>match a with
 |[b,d]=>VR c h m.next b d ⟨m.hp,m.next+1⟩ 0
 |_=>none
def kp:aU:=λc h a m=>match a with
 |[b,d]=>PL c h m.next b d ⟨m.hp,m.next+1⟩ 0
 |_=>none
def ry:aU:=λc h a m=>match a with
 |[b,d]=>WU c h m.next b d ⟨m.hp,m.next+1⟩ 0
 |_=>none
def ni:aU:=λc h a m=>match a with
 |[b,d]=>RV c h m.next b d ⟨m.hp,m.next+1⟩ 0
 |_=>none
def qe:aU:=λc h a m=>match a with
 |[b,d]=>UU c h m.next b d ⟨m.hp,m.next+1⟩ 0
 |_=>none
def qt:aU:=λc h a m=>match a with
 |[b]=>VL c h m.next b ⟨m.hp,m.next+1⟩ 0
 |_=>none
def qg:aU:=λc h a m=>match a with
 |[b,d]=>UV c h m.next b d ⟨m.hp,m.next+1⟩ 0
 |_=>none
def rf:aU:=λc h a m=>match a with
 |[b,d,e]=>VV c h m.next b d e ⟨m.hp,m.next+1⟩ 0
 |_=>none
def oc:aU:=λc h a m=>match a with
 |[b]=>SO c h m.next b ⟨m.hp,m.next+1⟩ 0
 |_=>none
def pf:aU:=λc h a m=>match a with
 |[b,d,e]=>TR c h m.next b d e ⟨m.hp,m.next+1⟩ 0
 |_=>none
def pd:aU:=λc h a m=>match a with
 |[b,d,e,f]=>TP c h m.next b d e f ⟨m.hp,m.next+1⟩ 0
 |_=>none
def pe:aU:=λc h a m=>match a with
 |[b]=>TQ c h m.next b ⟨m.hp,m.next+1⟩ 0
 |_=>none
def qu:aU:=λc h a m=>match a with
 |[b,d]=>VM c h m.next b d ⟨m.hp,m.next+1⟩ 0
 |_=>none
def mh:aU:=λc h a m=>match a with
 |[b,d]=>QW c h m.next b d ⟨m.hp,m.next+1⟩ 0
 |_=>none
def ol:aU:=λc h a m=>match a with
 |[b]=>SW c h m.next b ⟨m.hp,m.next+1⟩ 0
 |_=>none
def oi:aU:=λc h a m=>match a with
 |[b,d,e]=>SU c h m.next b d e ⟨m.hp,m.next+1⟩ 0
 |_=>none
def sk:aU:=λc h a m=>match a with
 |[b]=>XD c h m.next b ⟨m.hp,m.next+1⟩ 0
 |_=>none
def sa:aU:=λc h a m=>match a with
 |[b,d]=>WW c h m.next b d ⟨m.hp,m.next+1⟩ 0
 |_=>none
def se:aU:=λc h a m=>match a with
 |[b,d]=>XA c h m.next b d ⟨m.hp,m.next+1⟩ 0
 |_=>none
def sd:aU:=λc h a m=>match a with
 |[b,d]=>WZ c h m.next b d ⟨m.hp,m.next+1⟩ 0
 |_=>none
def sj:aU:=λc h a m=>match a with
 |[b]=>XC c h m.next b ⟨m.hp,m.next+1⟩ 0
 |_=>none
def si:aU:=λc h a m=>match a with
 |[b,d]=>IQ c h m.next b d ⟨m.hp,m.next+1⟩ 0
 |_=>none
def nh:aU:=λc h a m=>match a with
 |[b,d]=>RU c h m.next b d ⟨m.hp,m.next+1⟩ 0
 |_=>none
def qx:aU:=λc h a m=>match a with
 |[b,d]=>VQ c h m.next b d ⟨m.hp,m.next+1⟩ 0
 |_=>none
def ki:aU:=λc h a m=>match a with
 |[b,d]=>PG c h m.next b d ⟨m.hp,m.next+1⟩ 0
 |_=>none
def rx:aU:=λc h a m=>match a with
 |[b,d]=>WT c h m.next b d ⟨m.hp,m.next+1⟩ 0
 |_=>none
def OR:aU:=λc h a m=>match a with
 |[b,d]=>IM c h m.next b d ⟨m.hp,m.next+1⟩ 0
 |_=>none
def qn:aU:=λc h a m=>match a with
 |[b]=>VD c h m.next b ⟨m.hp,m.next+1⟩ 0
 |_=>none
def qd:aU:=λc h a m=>match a with
 |[b,d]=>UR c h m.next b d ⟨m.hp,m.next+1⟩ 0
 |_=>none
def qm:aU:=λc h a m=>match a with
 |[b]=>VC c h m.next b ⟨m.hp,m.next+1⟩ 0
 |_=>none
def ql:aU:=λc h a m=>match a with
 |[b]=>VB c h m.next b ⟨m.hp,m.next+1⟩ 0
 |_=>none
def qk:aU:=λc h a m=>match a with
 |[b]=>VA c h m.next b ⟨m.hp,m.next+1⟩ 0
 |_=>none
def qj:aU:=λc h a m=>match a with
 |[b]=>UZ c h m.next b ⟨m.hp,m.next+1⟩ 0
 |_=>none
def qh:aU:=λc h a m=>match a with
 |[b]=>UY c h m.next b ⟨m.hp,m.next+1⟩ 0
 |_=>none
def px:aU:=λc h a m=>match a with
 |[b]=>UJ c h m.next b ⟨m.hp,m.next+1⟩ 0
 |_=>none
def kj:aU:=λc h a m=>match a with
 |[b,d]=>PH c h m.next b d ⟨m.hp,m.next+1⟩ 0
 |_=>none
def ny:aU:=λc h a m=>match a with
 |[b]=>SK c h m.next b ⟨m.hp,m.next+1⟩ 0
 |_=>none
def kh:aU:=λc h a m=>match a with
 |[b,d]=>PF c h m.next b d ⟨m.hp,m.next+1⟩ 0
 |_=>none
def np:aU:=λc h a m=>match a with
 |[b,d]=>SE c h m.next b d ⟨m.hp,m.next+1⟩ 0
 |_=>none
def pc:aU:=λc h a m=>match a with
 |[b,d,e]=>TO c h m.next b d e ⟨m.hp,m.next+1⟩ 0
 |_=>none
def oz:aU:=λc h a m=>match a with
 |[b,d,e]=>TM c h m.next b d e ⟨m.hp,m.next+1⟩ 0
 |_=>none
def ml:aU:=λc h a m=>match a with
 |[b]=>QZ c h m.next b ⟨m.hp,m.next+1⟩ 0
 |_=>none
def kr:aU:=λc h a m=>match a with
 |[b,d,e]=>PM c h m.next b d e ⟨m.hp,m.next+1⟩ 0
 |_=>none
def lh:aU:=λc h a m=>match a with
 |[b,d]=>QD c h m.next b d ⟨m.hp,m.next+1⟩ 0
 |_=>none
def lg:aU:=λc h a m=>match a with
 |[b,d]=>PZ c h m.next b d ⟨m.hp,m.next+1⟩ 0
 |_=>none
def ln:aU:=λc h a m=>match a with
 |[b,d]=>QK c h m.next b d ⟨m.hp,m.next+1⟩ 0
 |_=>none
def oj:aU:=λc h a m=>match a with
 |[b,d]=>SV c h m.next b d ⟨m.hp,m.next+1⟩ 0
 |_=>none
def sm:aU:=λc h a m=>match a with
 |[b,d,e]=>XE c h m.next b d e ⟨m.hp,m.next+1⟩ 0
 |_=>none
def sb:aU:=λc h a m=>match a with
 |[b,d]=>WY c h m.next b d ⟨m.hp,m.next+1⟩ 0
 |_=>none
def kf:aU:=λc h a m=>match a with
 |[b,d]=>PE c h m.next b d ⟨m.hp,m.next+1⟩ 0
 |_=>none
def OT:aU:=λc h a m=>match a with
 |[b,d]=>IN c h m.next b d ⟨m.hp,m.next+1⟩ 0
 |_=>none
def ke:aU:=λc h a m=>match a with
 |[b,d,e,f]=>PC c h m.next b d e f ⟨m.hp,m.next+1⟩ 0
 |_=>none
def nf:aU:=λc h a m=>match a with
 |[b,d]=>RM c h m.next b d ⟨m.hp,m.next+1⟩ 0
 |_=>none
def pb:aU:=λc h a m=>match a with
 |[b]=>TN c h m.next b ⟨m.hp,m.next+1⟩ 0
 |_=>none
def ky:aU:=λc h a m=>match a with
 |[b]=>PU c h m.next b ⟨m.hp,m.next+1⟩ 0
 |_=>none
def nr:aU:=λc h a m=>match a with
 |[b,d]=>SG c h m.next b d ⟨m.hp,m.next+1⟩ 0
 |_=>none
def mj:aU:=λc h a m=>match a with
 |[b]=>QY c h m.next b ⟨m.hp,m.next+1⟩ 0
 |_=>none
def ku:aU:=λc h a m=>match a with
 |[b,d]=>PQ c h m.next b d ⟨m.hp,m.next+1⟩ 0
 |_=>none
def mi:aU:=λc h a m=>match a with
 |[b]=>QX c h m.next b ⟨m.hp,m.next+1⟩ 0
 |_=>none
def lj:aU:=λc h a m=>match a with
 |[b]=>QF c h m.next b ⟨m.hp,m.next+1⟩ 0
 |_=>none
def lc:aU:=λc h a m=>match a with
 |[b,d,e,f,g,i,j]=>QB c h m.next b d e f g i j ⟨m.hp,m.next+1⟩ 0
 |_=>none
def lz:aU:=λc h a m=>match a with
 |[b,d,e]=>QP c h m.next b d e ⟨m.hp,m.next+1⟩ 0
 |_=>none
def kx:aU:=λc h a m=>match a with
 |[b]=>PS c h m.next b ⟨m.hp,m.next+1⟩ 0
 |_=>none
def ks:aU:=λc h a m=>match a with
 |[b,d]=>PN c h m.next b d ⟨m.hp,m.next+1⟩ 0
 |_=>none
def rz:aU:=λc h a m=>match a with
 |[b,d,e]=>WV c h m.next b d e ⟨m.hp,m.next+1⟩ 0
 |_=>none
def rp:aU:=λc h a m=>match a with
 |[b]=>zl c h m.next b ⟨m.hp,m.next+1⟩ 0
 |_=>none
def ru:aU:=λc h a m=>match a with
 |[b,d]=>WS c h m.next b d ⟨m.hp,m.next+1⟩ 0
 |_=>none
def ko:aU:=λc h a m=>match a with
 |[b,d]=>PK c h m.next b d ⟨m.hp,m.next+1⟩ 0
 |_=>none
def mo:aU:=λc h a m=>match a with
 |[b]=>RA c h m.next b ⟨m.hp,m.next+1⟩ 0
 |_=>none
def OI:aU:=λc h a m=>match a with
 |[b,d]=>HV c h m.next b d ⟨m.hp,m.next+1⟩ 0
 |_=>none
def nc:aU:=λc h a m=>match a with
 |[b,d]=>RL c h m.next b d ⟨m.hp,m.next+1⟩ 0
 |_=>none
def li:aU:=λc h a m=>match a with
 |[b,d,e]=>QI c h m.next b d e ⟨m.hp,m.next+1⟩ 0
 |_=>none
def lm:aU:=λc h a m=>match a with
 |[b,d]=>QJ c h m.next b d ⟨m.hp,m.next+1⟩ 0
 |_=>none
def na:aU:=λc h a m=>match a with
 |[b]=>RK c h m.next b ⟨m.hp,m.next+1⟩ 0
 |_=>none
def lu:aU:=λc h a m=>match a with
 |[b,d,e,f]=>QM c h m.next b d e f ⟨m.hp,m.next+1⟩ 0
 |_=>none
def ma:aU:=λc h a m=>match a with
 |[b,d]=>QQ c h m.next b d ⟨m.hp,m.next+1⟩ 0
 |_=>none
def mf:aU:=λc h a m=>match a with
 |[b]=>QR c h m.next b ⟨m.hp,m.next+1⟩ 0
 |_=>none
def mr:aU:=λc h a m=>match a with
 |[b,d,e]=>RC c h m.next b d e ⟨m.hp,m.next+1⟩ 0
 |_=>none
def kw:aU:=λc h a m=>match a with
 |[b]=>PR c h m.next b ⟨m.hp,m.next+1⟩ 0
 |_=>none
def mu:aU:=λc h a m=>match a with
 |[b,d,e,f]=>RD c h m.next b d e f ⟨m.hp,m.next+1⟩ 0
 |_=>none
def rq:aU:=λc h a m=>match a with
 |[b]=>WK c h m.next b ⟨m.hp,m.next+1⟩ 0
 |_=>none
def kz:aU:=λc h a m=>match a with
 |[b]=>PV c h m.next b ⟨m.hp,m.next+1⟩ 0
 |_=>none
def nu:aU:=λc h a m=>match a with
 |[b,d]=>SH c h m.next b d ⟨m.hp,m.next+1⟩ 0
 |_=>none
def md:aU:=λc h a m=>match a with
 |[b,d]=>QS c h m.next b d ⟨m.hp,m.next+1⟩ 0
 |_=>none
def mz:aU:=λc h a m=>match a with
 |[b,d,e,f]=>RH c h m.next b d e f ⟨m.hp,m.next+1⟩ 0
 |_=>none
def mw:aU:=λc h a m=>match a with
 |[b,d,e]=>RE c h m.next b d e ⟨m.hp,m.next+1⟩ 0
 |_=>none
def sr:aU:=λc h a m=>match a with
 |[b,d]=>XO c h m.next b d ⟨m.hp,m.next+1⟩ 0
 |_=>none
def OJ:aU:=λc h a m=>match a with
 |[b,d]=>HW c h m.next b d ⟨m.hp,m.next+1⟩ 0
 |_=>none
def sq:aU:=λc h a m=>match a with
 |[b]=>XN c h m.next b ⟨m.hp,m.next+1⟩ 0
 |_=>none
def pq:aU:=λc h a m=>match a with
 |[b,d,e]=>UE c h m.next b d ⟨m.hp,m.next+1⟩ 0
 |_=>none
def pm:aU:=λc h a m=>match a with
 |[b,d]=>UD c h m.next b d ⟨m.hp,m.next+1⟩ 0
 |_=>none
def oe:aU:=λc h a m=>match a with
 |[b]=>SQ c h m.next b ⟨m.hp,m.next+1⟩ 0
 |_=>none
def pv:aU:=λc h a m=>match a with
 |[b,d,e]=>UG c h m.next b d ⟨m.hp,m.next+1⟩ 0
 |_=>none
def qw:aU:=λc h a m=>match a with
 |[b,d]=>VP c h m.next b d ⟨m.hp,m.next+1⟩ 0
 |_=>none
def nv:aU:=λc h a m=>match a with
 |[b,d]=>SI c h m.next b d ⟨m.hp,m.next+1⟩ 0
 |_=>none
def pu:aU:=λc h a m=>match a with
 |[b,d]=>UF c h m.next b d ⟨m.hp,m.next+1⟩ 0
 |_=>none
def og:aU:=λc h a m=>match a with
 |[b]=>SS c h m.next b ⟨m.hp,m.next+1⟩ 0
 |_=>none
def qv:aU:=λc h a m=>match a with
 |[b,d]=>VO c h m.next b d ⟨m.hp,m.next+1⟩ 0
 |_=>none
def nj:aU:=λc h a m=>match a with
 |[b,d]=>RW c h m.next b d ⟨m.hp,m.next+1⟩ 0
 |_=>none
def qp:aU:=λc h a m=>match a with
 |[b,d,e]=>VG c h m.next b d ⟨m.hp,m.next+1⟩ 0
 |_=>none
def qb:aU:=λc h a m=>match a with
 |[b,d,e]=>UO c h m.next b d e ⟨m.hp,m.next+1⟩ 0
 |_=>none
def nw:aU:=λc h a m=>match a with
 |[b,d]=>SJ c h m.next b d ⟨m.hp,m.next+1⟩ 0
 |_=>none
def qa:aU:=λc h a m=>match a with
 |[b,d]=>UN c h m.next b d ⟨m.hp,m.next+1⟩ 0
 |_=>none
def oh:aU:=λc h a m=>match a with
 |[b]=>ST c h m.next b ⟨m.hp,m.next+1⟩ 0
 |_=>none
def nk:aU:=λc h a m=>match a with
 |[b,d]=>RX c h m.next b d ⟨m.hp,m.next+1⟩ 0
 |_=>none
def qq:aU:=λc h a m=>match a with
 |[b,d,e]=>VI c h m.next b d ⟨m.hp,m.next+1⟩ 0
 |_=>none
def nq:aU:=λc h a m=>match a with
 |[b,d]=>SF c h m.next b d ⟨m.hp,m.next+1⟩ 0
 |_=>none
def od:aU:=λc h a m=>match a with
 |[b]=>SP c h m.next b ⟨m.hp,m.next+1⟩ 0
 |_=>none
def ng:aU:=λc h a m=>match a with
 |[b,d]=>RO c h m.next b d ⟨m.hp,m.next+1⟩ 0
 |_=>none
def qs:aU:=λc h a m=>match a with
 |[b,d,e]=>VK c h m.next b d ⟨m.hp,m.next+1⟩ 0
 |_=>none
def nl:aU:=λc h a m=>match a with
 |[b,d]=>SA c h m.next b d ⟨m.hp,m.next+1⟩ 0
 |_=>none
def qr:aU:=λc h a m=>match a with
 |[b,d]=>VJ c h m.next b d ⟨m.hp,m.next+1⟩ 0
 |_=>none
end Go.Ix
