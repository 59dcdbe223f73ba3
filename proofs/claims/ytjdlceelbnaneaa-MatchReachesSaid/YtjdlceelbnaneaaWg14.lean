import Derived.Test.YtjdlceelbnaneaaWg13
import Derived.Test.YtjdlceelbnaneaaWg6
import Derived.Test.YtjdlceelbnaneaaWg5
set_option linter.unusedSimpArgs false
set_option linter.unusedVariables false
set_option exponentiation.threshold 3000
namespace Go.Ix
open Go.Proofs Ieee
def lowN(n e:Int):Int×Int:=(n.tdiv (Int.gcd n e:Int),e.tdiv (Int.gcd n e:Int))
variable{a b:AV}{D D2:List Px}{L S L2 S2:Int}
section
variable(d:Nat)(hs:FHs)(ha:Sl pxE a D)(hR:RtI L S D)(hb:Sl pxE b D2)(hR2:RtI L2 S2 D2){x y p q:Int}{z w:Nat}(hz:z<=8)(hw:w<=8)(hx:0<=x/\x<=64)(hy:0<=y/\y<=64)(hp:-64<=p/\p<=64)(hq:-64<=q/\q<=64){M:Mem}(g3:M.get (0,0,3)=some (.row [I L,I S,a,I L2,I S2,b] 0 false))(g4:M.get (0,1,4)=some (.row [I x,I y,I z,I w] 0 false))(g5:M.get (0,2,5)=some (.row [I p,I q] 0 false))
include ha hR hb hR2 hw hx hy hp hq g3 g4 g5
end
theorem low_ok{n e:Int}(h0:0<=n)(he:0<e)(hb:n<=9000000000000000000)(hb2:e<=9000000000000000000):(0:Int)<(Int.gcd n e:Int)/\w64 (n.tdiv (Int.gcd n e:Int))=(lowN n e).1/\w64 (e.tdiv (Int.gcd n e:Int))=(lowN n e).2/\0<=(lowN n e).1/\1<=(lowN n e).2/\(n<=e->(lowN n e).1<=(lowN n e).2):=by
 have hg:0<Int.gcd n e:=Int.gcd_pos_of_ne_zero_right n (by omega)
 have hg':(0:Int)<(Int.gcd n e:Int):=by omega
 have e1:n.tdiv (Int.gcd n e:Int)=n / (Int.gcd n e:Int):=Int.tdiv_eq_ediv_of_nonneg h0
 have e2:e.tdiv (Int.gcd n e:Int)=e / (Int.gcd n e:Int):=Int.tdiv_eq_ediv_of_nonneg (by omega)
 have d2:(Int.gcd n e:Int) ∣ e:=Int.gcd_dvd_right ..
 have p1:0<=n / (Int.gcd n e:Int):=Int.ediv_nonneg h0 (by omega)
 have p2:1<=e / (Int.gcd n e:Int):=by
  have:=Int.ediv_pos_of_pos_of_dvd he (by omega) d2
  omega
 have u1:n / (Int.gcd n e:Int)<=n:=Int.ediv_le_self _ h0
 have u2:e / (Int.gcd n e:Int)<=e:=Int.ediv_le_self _ (by omega)
 unfold lowN
 simp only
 rw[e1,e2]
 refine⟨hg',x9j (by omega) (by omega),x9j (by omega) (by omega),p1,p2,λh=>Int.ediv_le_ediv hg' h⟩
noncomputable def scM(L S:Int)(D:List Px)(L2 S2:Int)(D2:List Px)(x y:Int)(z w:Nat)(p q:Int):(Int×Int)×Int:=
 if xbn L2 S2 x y z w p q=true then
  (if scE (wA L S D x y) w (z*w)=0\/scE (wA L2 S2 D2 (x+p) (y+q)) w (z*w)=0 then((0,0),11)
   else(lowN (scN (wA L S D x y) (wA L2 S2 D2 (x+p) (y+q)) w (z*w)) (scE (wA L S D x y) w (z*w)*scE (wA L2 S2 D2 (x+p) (y+q)) w (z*w)),0))
 else((0,0),26)
open Ieee
end Go.Ix
namespace Go.Ix
open Go.Proofs Ieee
variable{a:AV}{D:List Px}{L S:Int}
end Go.Ix
namespace Go.Ix
open Go.Proofs Ieee
variable{a:AV}{D:List Px}{L S:Int}
section
variable(d:Nat)(hs:FHs)(ha:Sl pxE a D)(hR:RtI L S D){k:Int}(hk:wi k 0 2=true){f:Aff}(hf:AffIn f)
include ha hR hk hf
end
end Go.Ix
