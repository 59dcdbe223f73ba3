import Derived.Test.YtljibmnhhdiakaaFxText0
import Derived.Test.YtljibmnhhdiakaaFxEnt
import Derived.Test.YtljibmnhhdiakaaFxRules
import Derived.Test.YtljibmnhhdiakaaFxProj
import Derived.ProofKit
set_option linter.unusedVariables false
namespace Go.Ix
open Go.Proofs
variable (call : x1e5) (hs : FHs) (u : Nat)
noncomputable abbrev xjm : Fs → O2 := x1eb Try.prog [.tmp 2]
noncomputable abbrev x1td := XK call { f := x8o, u := u, nt := 38, hs := hs } xjm
noncomputable def xvl := x1ec x8o
theorem xvm : x1td call hs u xvl xjm eNil = (j1 (xhl call hs u) 0) := by kernel_rfl
theorem xta : FL x8o xc1 := le1 (fn := Try.f4) (by kernel_rfl) (by kernel_rfl) (by kernel_rfl) (by kernel_rfl) (fun call hs t0 m => (congrFun (xvm call hs m.next) _).trans (by kernel_rfl)) (fun _ _ _ _ _ h => by unfold xc1 at h; split at h <;> first | exact ⟨_, rfl⟩ | cases h)
noncomputable abbrev xb3 : Fs → O2 := x1eb Try.prog [.tmp 4]
noncomputable abbrev x1mh := XK call { f := x8p, u := u, nt := 56, hs := hs } xb3
noncomputable def xjn := x1ec x8p
noncomputable def xfc := nRs 6 xjn
noncomputable def xvn := nL xfc
noncomputable def xvo := nR xfc
theorem xvp : x1mh call hs u xvo xb3 eNil = (j4 (x93 call hs u) 5 6 7 8) := by kernel_rfl
theorem xvq : x1mh call hs u xvn (j4 (x93 call hs u) 5 6 7 8) eNil = (j6 (xdb call hs u) 1 2 5 6 7 8) := by kernel_rfl
theorem xvr : x1mh call hs u xfc xb3 eNil = (j6 (xdb call hs u) 1 2 5 6 7 8) := sq2 (by kernel_rfl) (xvp call hs u) (xvq call hs u)
theorem xvs : x1mh call hs u xjn xb3 eNil = (j2 (xhm call hs u) 0 1) := (sqN 6 (by kernel_rfl) (xvr call hs u)).trans (by kernel_rfl)
theorem xtb : FL x8p xc2 := le2 (fn := Try.f11) (by kernel_rfl) (by kernel_rfl) (by kernel_rfl) (by kernel_rfl) (fun call hs t0 t1 m => (congrFun (xvs call hs m.next) _).trans (by kernel_rfl)) (fun _ _ _ _ _ h => by unfold xc2 at h; split at h <;> first | exact ⟨_, _, rfl⟩ | cases h)
noncomputable abbrev xb4 : Fs → O2 := x1eb Try.prog [.tmp 4]
noncomputable abbrev x1jd := XK call { f := x4s, u := u, nt := 107, hs := hs } xb4
noncomputable def xjo := x1ec x4s
noncomputable def xfd := nRs 8 xjo
noncomputable def xjp := nL xfd
noncomputable def xvt := nR xfd
noncomputable def xjq := nR xjp
noncomputable def xjr := nR xjq
noncomputable def xvu := nR xjr
theorem xvv : x1jd call hs u xvt xb4 eNil = (j0 (x3h call hs u)) := by kernel_rfl
theorem xvw (rec0 : AV → AV → AV → AV → Mem → Nat → O2) : x1jd call hs u xvu (j4 rec0 1 5 9 11) (setE 0 (j0 (x3h call hs u)) eNil) = (j4 (xdc call hs u rec0) 1 5 9 11) := by kernel_rfl
theorem xvx : x1jd call hs u xjr (j0 (x3h call hs u)) (setE 0 (j0 (x3h call hs u)) eNil) = (j4 (x3i call hs u NN) 1 5 9 11) := lp (Ln := fun n => j4 (x3i call hs u n) 1 5 9 11) (by kernel_rfl) rfl fun n => (xvw call hs u (x3i call hs u n)).trans (by kernel_rfl)
theorem xvy : x1jd call hs u xjq (j0 (x3h call hs u)) eNil = (j4 (x3i call hs u NN) 1 5 9 11) := bk (by kernel_rfl) (xvx call hs u)
theorem xvz : x1jd call hs u xjp (j0 (x3h call hs u)) eNil = (j3 (x94 call hs u) 1 5 9) := (sqN 1 (by kernel_rfl) (xvy call hs u)).trans (by kernel_rfl)
theorem xw0 : x1jd call hs u xfd xb4 eNil = (j3 (x94 call hs u) 1 5 9) := sq2 (by kernel_rfl) (xvv call hs u) (xvz call hs u)
theorem xw1 : x1jd call hs u xjo xb4 eNil = (j2 (xdd call hs u) 0 1) := (sqN 8 (by kernel_rfl) (xw0 call hs u)).trans (by kernel_rfl)
theorem xtc : FL x4s x6i := le2 (fn := Try.f12) (by kernel_rfl) (by kernel_rfl) (by kernel_rfl) (by kernel_rfl) (fun call hs t0 t1 m => (congrFun (xw1 call hs m.next) _).trans (by kernel_rfl)) (fun _ _ _ _ _ h => by unfold x6i at h; split at h <;> first | exact ⟨_, _, rfl⟩ | cases h)
noncomputable abbrev xjs : Fs → O2 := x1eb Try.prog [.tmp 0]
noncomputable abbrev x1te := XK call { f := x24, u := u, nt := 79, hs := hs } xjs
noncomputable def xw2 := x1ec x24
theorem xw3 : x1te call hs u xw2 xjs eNil = (j0 (xhn call hs u)) := by kernel_rfl
theorem xtd : FL x24 xc3 := le0 (fn := Try.f15) (by kernel_rfl) (by kernel_rfl) (by kernel_rfl) (by kernel_rfl) (fun call hs m => (congrFun (xw3 call hs m.next) _).trans (by kernel_rfl)) (fun _ _ _ _ _ h => by unfold xc3 at h; split at h <;> first | exact rfl | cases h)
noncomputable abbrev xb5 : Fs → O2 := x1eb Try.prog [.tmp 2]
noncomputable abbrev x1je := XK call { f := x8q, u := u, nt := 56, hs := hs } xb5
noncomputable def xjt := x1ec x8q
noncomputable def xfe := nRs 3 xjt
noncomputable def xju := nL xfe
noncomputable def xw4 := nR xfe
noncomputable def xjv := nR xju
noncomputable def xjw := nR xjv
noncomputable def xw5 := nR xjw
theorem xw6 : x1je call hs u xw4 xb5 eNil = (j0 (x4b call hs u)) := by kernel_rfl
theorem xw7 (rec0 : AV → AV → Mem → Nat → O2) : x1je call hs u xw5 (j2 rec0 1 3) (setE 0 (j0 (x4b call hs u)) eNil) = (j2 (xho call hs u rec0) 1 3) := by kernel_rfl
theorem xw8 : x1je call hs u xjw (j0 (x4b call hs u)) (setE 0 (j0 (x4b call hs u)) eNil) = (j2 (x52 call hs u NN) 1 3) := lp (Ln := fun n => j2 (x52 call hs u n) 1 3) (by kernel_rfl) rfl fun n => (xw7 call hs u (x52 call hs u n)).trans (by kernel_rfl)
theorem xw9 : x1je call hs u xjv (j0 (x4b call hs u)) eNil = (j2 (x52 call hs u NN) 1 3) := bk (by kernel_rfl) (xw8 call hs u)
theorem xwa : x1je call hs u xju (j0 (x4b call hs u)) eNil = (j1 (xdf call hs u) 1) := (sqN 1 (by kernel_rfl) (xw9 call hs u)).trans (by kernel_rfl)
theorem xwb : x1je call hs u xfe xb5 eNil = (j1 (xdf call hs u) 1) := sq2 (by kernel_rfl) (xw6 call hs u) (xwa call hs u)
theorem xwc : x1je call hs u xjt xb5 eNil = (j1 (xhp call hs u) 0) := (sqN 3 (by kernel_rfl) (xwb call hs u)).trans (by kernel_rfl)
theorem xte : FL x8q xc4 := le1 (fn := Try.f16) (by kernel_rfl) (by kernel_rfl) (by kernel_rfl) (by kernel_rfl) (fun call hs t0 m => (congrFun (xwc call hs m.next) _).trans (by kernel_rfl)) (fun _ _ _ _ _ h => by unfold xc4 at h; split at h <;> first | exact ⟨_, rfl⟩ | cases h)
noncomputable abbrev xjx : Fs → O2 := x1eb Try.prog [.tmp 2, .tmp 3, .tmp 4, .tmp 5]
noncomputable abbrev x1tf := XK call { f := x6j, u := u, nt := 33, hs := hs } xjx
noncomputable def xwd := x1ec x6j
theorem xwe : x1tf call hs u xwd xjx eNil = (j1 (xhq call hs u) 0) := by kernel_rfl
theorem xtf : FL x6j xc5 := le1 (fn := Try.f17) (by kernel_rfl) (by kernel_rfl) (by kernel_rfl) (by kernel_rfl) (fun call hs t0 m => (congrFun (xwe call hs m.next) _).trans (by kernel_rfl)) (fun _ _ _ _ _ h => by unfold xc5 at h; split at h <;> first | exact ⟨_, rfl⟩ | cases h)
noncomputable abbrev xjy : Fs → O2 := x1eb Try.prog [.cell 2 x63]
noncomputable abbrev x1tg := XK call { f := x8r, u := u, nt := 10, hs := hs } xjy
noncomputable def xwf := x1ec x8r
theorem xwg : x1tg call hs u xwf xjy eNil = (j1 (xhr call hs u) 0) := by kernel_rfl
theorem xtg : FL x8r xc6 := le1 (fn := Try.f18) (by kernel_rfl) (by kernel_rfl) (by kernel_rfl) (by kernel_rfl) (fun call hs t0 m => (congrFun (xwg call hs m.next) _).trans (by kernel_rfl)) (fun _ _ _ _ _ h => by unfold xc6 at h; split at h <;> first | exact ⟨_, rfl⟩ | cases h)
noncomputable abbrev xjz : Fs → O2 := x1eb Try.prog [.tmp 2]
noncomputable abbrev x1th := XK call { f := x6k, u := u, nt := 11, hs := hs } xjz
noncomputable def xwh := x1ec x6k
theorem xwi : x1th call hs u xwh xjz eNil = (j1 (xhs call hs u) 0) := by kernel_rfl
theorem xth : FL x6k xc7 := le1 (fn := Try.f19) (by kernel_rfl) (by kernel_rfl) (by kernel_rfl) (by kernel_rfl) (fun call hs t0 m => (congrFun (xwi call hs m.next) _).trans (by kernel_rfl)) (fun _ _ _ _ _ h => by unfold xc7 at h; split at h <;> first | exact ⟨_, rfl⟩ | cases h)
noncomputable abbrev xb6 : Fs → O2 := x1eb Try.prog [.tmp 4, .tmp 5]
noncomputable abbrev x1jf := XK call { f := x8s, u := u, nt := 27, hs := hs } xb6
noncomputable def xk0 := x1ec x8s
noncomputable def xff := nRs 2 xk0
noncomputable def xk1 := nL xff
noncomputable def xwj := nR xff
noncomputable def xk2 := nR xk1
noncomputable def xk3 := nR xk2
noncomputable def xwk := nR xk3
theorem xwl : x1jf call hs u xwj xb6 eNil = (j2 (x4c call hs u) 1 2) := by kernel_rfl
theorem xwm (rec0 : AV → AV → AV → Mem → Nat → O2) : x1jf call hs u xwk (j3 rec0 1 2 6) (setE 0 (j2 (x4c call hs u) 1 2) eNil) = (j3 (xht call hs u rec0) 1 2 6) := by kernel_rfl
theorem xwn : x1jf call hs u xk3 (j2 (x4c call hs u) 1 2) (setE 0 (j2 (x4c call hs u) 1 2) eNil) = (j3 (x53 call hs u NN) 1 2 6) := lp (Ln := fun n => j3 (x53 call hs u n) 1 2 6) (by kernel_rfl) rfl fun n => (xwm call hs u (x53 call hs u n)).trans (by kernel_rfl)
theorem xwo : x1jf call hs u xk2 (j2 (x4c call hs u) 1 2) eNil = (j3 (x53 call hs u NN) 1 2 6) := bk (by kernel_rfl) (xwn call hs u)
theorem xwp : x1jf call hs u xk1 (j2 (x4c call hs u) 1 2) eNil = (j2 (xdg call hs u) 1 2) := (sqN 1 (by kernel_rfl) (xwo call hs u)).trans (by kernel_rfl)
theorem xwq : x1jf call hs u xff xb6 eNil = (j2 (xdg call hs u) 1 2) := sq2 (by kernel_rfl) (xwl call hs u) (xwp call hs u)
theorem xwr : x1jf call hs u xk0 xb6 eNil = (j2 (xhu call hs u) 0 1) := (sqN 2 (by kernel_rfl) (xwq call hs u)).trans (by kernel_rfl)
theorem xti : FL x8s xc8 := le2 (fn := Try.f20) (by kernel_rfl) (by kernel_rfl) (by kernel_rfl) (by kernel_rfl) (fun call hs t0 t1 m => (congrFun (xwr call hs m.next) _).trans (by kernel_rfl)) (fun _ _ _ _ _ h => by unfold xc8 at h; split at h <;> first | exact ⟨_, _, rfl⟩ | cases h)
noncomputable abbrev x8h : Fs → O2 := x1eb Try.prog [.tmp 4, .tmp 5]
noncomputable abbrev x1h6 := XK call { f := x8t, u := u, nt := 91, hs := hs } x8h
noncomputable def xk4 := x1ec x8t
noncomputable def xfg := nRs 4 xk4
noncomputable def xk5 := nL xfg
noncomputable def xfh := nR xfg
noncomputable def xk6 := nL xfh
noncomputable def xws := nR xfh
noncomputable def xk7 := nR xk6
noncomputable def xk8 := nR xk7
noncomputable def xwt := nR xk8
noncomputable def xk9 := nR xk5
noncomputable def xka := nR xk9
noncomputable def xwu := nR xka
theorem xwv : x1h6 call hs u xws x8h eNil = (j1 (x4d call hs u) 7) := by kernel_rfl
theorem xww (rec0 : AV → AV → AV → AV → Mem → Nat → O2) : x1h6 call hs u xwt (j4 rec0 2 6 7 10) (setE 2 (j1 (x4d call hs u) 7) eNil) = (j4 (xhv call hs u rec0) 2 6 7 10) := by kernel_rfl
theorem xwx : x1h6 call hs u xk8 (j1 (x4d call hs u) 7) (setE 2 (j1 (x4d call hs u) 7) eNil) = (j4 (x54 call hs u NN) 2 6 7 10) := lp (Ln := fun n => j4 (x54 call hs u n) 2 6 7 10) (by kernel_rfl) rfl fun n => (xww call hs u (x54 call hs u n)).trans (by kernel_rfl)
theorem xwy : x1h6 call hs u xk7 (j1 (x4d call hs u) 7) eNil = (j4 (x54 call hs u NN) 2 6 7 10) := bk (by kernel_rfl) (xwx call hs u)
theorem xwz : x1h6 call hs u xk6 (j1 (x4d call hs u) 7) eNil = (j3 (x3j call hs u) 2 6 7) := (sqN 1 (by kernel_rfl) (xwy call hs u)).trans (by kernel_rfl)
theorem xx0 : x1h6 call hs u xfh x8h eNil = (j3 (x3j call hs u) 2 6 7) := sq2 (by kernel_rfl) (xwv call hs u) (xwz call hs u)
theorem xx1 (rec1 : AV → AV → AV → AV → AV → Mem → Nat → O2) : x1h6 call hs u xwu (j5 rec1 1 2 6 7 8) (setE 0 (j3 (x3j call hs u) 2 6 7) eNil) = (j5 (xhw call hs u rec1) 1 2 6 7 8) := by kernel_rfl
theorem xx2 : x1h6 call hs u xka (j3 (x3j call hs u) 2 6 7) (setE 0 (j3 (x3j call hs u) 2 6 7) eNil) = (j5 (x55 call hs u NN) 1 2 6 7 8) := lp (Ln := fun n => j5 (x55 call hs u n) 1 2 6 7 8) (by kernel_rfl) rfl fun n => (xx1 call hs u (x55 call hs u n)).trans (by kernel_rfl)
theorem xx3 : x1h6 call hs u xk9 (j3 (x3j call hs u) 2 6 7) eNil = (j5 (x55 call hs u NN) 1 2 6 7 8) := bk (by kernel_rfl) (xx2 call hs u)
theorem xx4 : x1h6 call hs u xk5 (j3 (x3j call hs u) 2 6 7) eNil = (j4 (xdh call hs u) 1 2 6 7) := (sqN 1 (by kernel_rfl) (xx3 call hs u)).trans (by kernel_rfl)
theorem xx5 : x1h6 call hs u xfg x8h eNil = (j4 (xdh call hs u) 1 2 6 7) := sq2 (by kernel_rfl) (xx0 call hs u) (xx4 call hs u)
theorem xx6 : x1h6 call hs u xk4 x8h eNil = (j2 (xhx call hs u) 0 1) := (sqN 4 (by kernel_rfl) (xx5 call hs u)).trans (by kernel_rfl)
theorem xtj : FL x8t xc9 := le2 (fn := Try.f21) (by kernel_rfl) (by kernel_rfl) (by kernel_rfl) (by kernel_rfl) (fun call hs t0 t1 m => (congrFun (xx6 call hs m.next) _).trans (by kernel_rfl)) (fun _ _ _ _ _ h => by unfold xc9 at h; split at h <;> first | exact ⟨_, _, rfl⟩ | cases h)
noncomputable abbrev xb7 : Fs → O2 := x1eb Try.prog [.tmp 4]
noncomputable abbrev x1jg := XK call { f := x2z, u := u, nt := 18, hs := hs } xb7
noncomputable def xkb := x1ec x2z
noncomputable def xfi := nR xkb
noncomputable def xkc := nL xfi
noncomputable def xx7 := nR xfi
noncomputable def xkd := nR xkc
noncomputable def xke := nR xkd
noncomputable def xx8 := nR xke
theorem xx9 : x1jg call hs u xx7 xb7 eNil = (j0 (x3k call hs u)) := by kernel_rfl
theorem xxa (rec0 : AV → AV → AV → Mem → Nat → O2) : x1jg call hs u xx8 (j3 rec0 0 1 5) (setE 0 (j0 (x3k call hs u)) eNil) = (j3 (x95 call hs u rec0) 0 1 5) := by kernel_rfl
theorem xxb : x1jg call hs u xke (j0 (x3k call hs u)) (setE 0 (j0 (x3k call hs u)) eNil) = (j3 (x2c call hs u NN) 0 1 5) := lp (Ln := fun n => j3 (x2c call hs u n) 0 1 5) (by kernel_rfl) rfl fun n => (xxa call hs u (x2c call hs u n)).trans (by kernel_rfl)
theorem xxc : x1jg call hs u xkd (j0 (x3k call hs u)) eNil = (j3 (x2c call hs u NN) 0 1 5) := bk (by kernel_rfl) (xxb call hs u)
theorem xxd : x1jg call hs u xkc (j0 (x3k call hs u)) eNil = (j2 (xdi call hs u) 0 1) := (sqN 1 (by kernel_rfl) (xxc call hs u)).trans (by kernel_rfl)
theorem xxe : x1jg call hs u xfi xb7 eNil = (j2 (xdi call hs u) 0 1) := sq2 (by kernel_rfl) (xx9 call hs u) (xxd call hs u)
theorem xxf : x1jg call hs u xkb xb7 eNil = (j2 (xhy call hs u) 0 1) := (sqN 1 (by kernel_rfl) (xxe call hs u)).trans (by kernel_rfl)
theorem xtk : FL x2z x8u := le2 (fn := Try.f24) (by kernel_rfl) (by kernel_rfl) (by kernel_rfl) (by kernel_rfl) (fun call hs t0 t1 m => (congrFun (xxf call hs m.next) _).trans (by kernel_rfl)) (fun _ _ _ _ _ h => by unfold x8u at h; split at h <;> first | exact ⟨_, _, rfl⟩ | cases h)
noncomputable abbrev x8i : Fs → O2 := x1eb Try.prog [.tmp 2]
noncomputable abbrev x1h7 := XK call { f := x30, u := u, nt := 56, hs := hs } x8i
noncomputable def xkf := x1ec x30
noncomputable def xfj := nRs 4 xkf
noncomputable def xkg := nL xfj
noncomputable def xfk := nR xfj
noncomputable def xkh := nL xfk
noncomputable def xxg := nR xfk
noncomputable def xki := nR xkh
noncomputable def xkj := nR xki
noncomputable def xxh := nR xkj
noncomputable def xkk := nR xkg
noncomputable def xkl := nR xkk
noncomputable def xxi := nR xkl
theorem xxj : x1h7 call hs u xxg x8i eNil = (j0 (x3l call hs u)) := by kernel_rfl
theorem xxk (rec0 : AV → AV → Mem → Nat → O2) : x1h7 call hs u xxh (j2 rec0 1 4) (setE 2 (j0 (x3l call hs u)) eNil) = (j2 (x96 call hs u rec0) 1 4) := by kernel_rfl
theorem xxl : x1h7 call hs u xkj (j0 (x3l call hs u)) (setE 2 (j0 (x3l call hs u)) eNil) = (j2 (x2d call hs u NN) 1 4) := lp (Ln := fun n => j2 (x2d call hs u n) 1 4) (by kernel_rfl) rfl fun n => (xxk call hs u (x2d call hs u n)).trans (by kernel_rfl)
theorem xxm : x1h7 call hs u xki (j0 (x3l call hs u)) eNil = (j2 (x2d call hs u NN) 1 4) := bk (by kernel_rfl) (xxl call hs u)
theorem xxn : x1h7 call hs u xkh (j0 (x3l call hs u)) eNil = (j1 (x2e call hs u) 1) := (sqN 1 (by kernel_rfl) (xxm call hs u)).trans (by kernel_rfl)
theorem xxo : x1h7 call hs u xfk x8i eNil = (j1 (x2e call hs u) 1) := sq2 (by kernel_rfl) (xxj call hs u) (xxn call hs u)
theorem xxp (rec1 : AV → AV → Mem → Nat → O2) : x1h7 call hs u xxi (j2 rec1 1 3) (setE 0 (j1 (x2e call hs u) 1) eNil) = (j2 (x97 call hs u rec1) 1 3) := by kernel_rfl
theorem xxq : x1h7 call hs u xkl (j1 (x2e call hs u) 1) (setE 0 (j1 (x2e call hs u) 1) eNil) = (j2 (x2f call hs u NN) 1 3) := lp (Ln := fun n => j2 (x2f call hs u n) 1 3) (by kernel_rfl) rfl fun n => (xxp call hs u (x2f call hs u n)).trans (by kernel_rfl)
theorem xxr : x1h7 call hs u xkk (j1 (x2e call hs u) 1) eNil = (j2 (x2f call hs u NN) 1 3) := bk (by kernel_rfl) (xxq call hs u)
theorem xxs : x1h7 call hs u xkg (j1 (x2e call hs u) 1) eNil = (j1 (x98 call hs u) 1) := (sqN 1 (by kernel_rfl) (xxr call hs u)).trans (by kernel_rfl)
theorem xxt : x1h7 call hs u xfj x8i eNil = (j1 (x98 call hs u) 1) := sq2 (by kernel_rfl) (xxo call hs u) (xxs call hs u)
theorem xxu : x1h7 call hs u xkf x8i eNil = (j1 (xdj call hs u) 0) := (sqN 4 (by kernel_rfl) (xxt call hs u)).trans (by kernel_rfl)
theorem xtl : FL x30 x6l := le1 (fn := Try.f25) (by kernel_rfl) (by kernel_rfl) (by kernel_rfl) (by kernel_rfl) (fun call hs t0 m => (congrFun (xxu call hs m.next) _).trans (by kernel_rfl)) (fun _ _ _ _ _ h => by unfold x6l at h; split at h <;> first | exact ⟨_, rfl⟩ | cases h)
noncomputable abbrev xkm : Fs → O2 := x1eb Try.prog [.cell 2 x63, .tmp 3]
noncomputable abbrev x1ti := XK call { f := x6m, u := u, nt := 13, hs := hs } xkm
noncomputable def xxv := x1ec x6m
theorem xxw : x1ti call hs u xxv xkm eNil = (j1 (xhz call hs u) 0) := by kernel_rfl
theorem xtm : FL x6m xca := le1 (fn := Try.f26) (by kernel_rfl) (by kernel_rfl) (by kernel_rfl) (by kernel_rfl) (fun call hs t0 m => (congrFun (xxw call hs m.next) _).trans (by kernel_rfl)) (fun _ _ _ _ _ h => by unfold xca at h; split at h <;> first | exact ⟨_, rfl⟩ | cases h)
noncomputable abbrev xkn : Fs → O2 := x1eb Try.prog [.cell 2 xfb]
noncomputable abbrev x1tj := XK call { f := x25, u := u, nt := 13, hs := hs } xkn
noncomputable def xxx := x1ec x25
theorem xxy : x1tj call hs u xxx xkn eNil = (j1 (xdk call hs u) 0) := by kernel_rfl
theorem xtn : FL x25 x6n := le1 (fn := Try.f27) (by kernel_rfl) (by kernel_rfl) (by kernel_rfl) (by kernel_rfl) (fun call hs t0 m => (congrFun (xxy call hs m.next) _).trans (by kernel_rfl)) (fun _ _ _ _ _ h => by unfold x6n at h; split at h <;> first | exact ⟨_, rfl⟩ | cases h)
noncomputable abbrev x8j : Fs → O2 := x1eb Try.prog [.tmp 2]
noncomputable abbrev x1h8 := XK call { f := x26, u := u, nt := 83, hs := hs } x8j
noncomputable def xko := x1ec x26
noncomputable def xfl := nRs 6 xko
noncomputable def xkp := nL xfl
noncomputable def xfm := nR xfl
noncomputable def xkq := nL xfm
noncomputable def xxz := nR xfm
noncomputable def xkr := nR xkq
noncomputable def xks := nR xkr
noncomputable def xy0 := nR xks
noncomputable def xkt := nR xkp
noncomputable def xku := nR xkt
noncomputable def xy1 := nR xku
theorem xy2 : x1h8 call hs u xxz x8j eNil = (j0 (x3m call hs u)) := by kernel_rfl
theorem xy3 (rec0 : AV → AV → Mem → Nat → O2) : x1h8 call hs u xy0 (j2 rec0 1 7) (setE 2 (j0 (x3m call hs u)) eNil) = (j2 (x99 call hs u rec0) 1 7) := by kernel_rfl
theorem xy4 : x1h8 call hs u xks (j0 (x3m call hs u)) (setE 2 (j0 (x3m call hs u)) eNil) = (j2 (x2g call hs u NN) 1 7) := lp (Ln := fun n => j2 (x2g call hs u n) 1 7) (by kernel_rfl) rfl fun n => (xy3 call hs u (x2g call hs u n)).trans (by kernel_rfl)
theorem xy5 : x1h8 call hs u xkr (j0 (x3m call hs u)) eNil = (j2 (x2g call hs u NN) 1 7) := bk (by kernel_rfl) (xy4 call hs u)
theorem xy6 : x1h8 call hs u xkq (j0 (x3m call hs u)) eNil = (j1 (x2h call hs u) 1) := (sqN 1 (by kernel_rfl) (xy5 call hs u)).trans (by kernel_rfl)
theorem xy7 : x1h8 call hs u xfm x8j eNil = (j1 (x2h call hs u) 1) := sq2 (by kernel_rfl) (xy2 call hs u) (xy6 call hs u)
theorem xy8 (rec1 : AV → AV → Mem → Nat → O2) : x1h8 call hs u xy1 (j2 rec1 1 6) (setE 0 (j1 (x2h call hs u) 1) eNil) = (j2 (x9a call hs u rec1) 1 6) := by kernel_rfl
theorem xy9 : x1h8 call hs u xku (j1 (x2h call hs u) 1) (setE 0 (j1 (x2h call hs u) 1) eNil) = (j2 (x2i call hs u NN) 1 6) := lp (Ln := fun n => j2 (x2i call hs u n) 1 6) (by kernel_rfl) rfl fun n => (xy8 call hs u (x2i call hs u n)).trans (by kernel_rfl)
theorem xya : x1h8 call hs u xkt (j1 (x2h call hs u) 1) eNil = (j2 (x2i call hs u NN) 1 6) := bk (by kernel_rfl) (xy9 call hs u)
theorem xyb : x1h8 call hs u xkp (j1 (x2h call hs u) 1) eNil = (j1 (x9b call hs u) 1) := (sqN 1 (by kernel_rfl) (xya call hs u)).trans (by kernel_rfl)
theorem xyc : x1h8 call hs u xfl x8j eNil = (j1 (x9b call hs u) 1) := sq2 (by kernel_rfl) (xy7 call hs u) (xyb call hs u)
theorem xyd : x1h8 call hs u xko x8j eNil = (j1 (xdl call hs u) 0) := (sqN 6 (by kernel_rfl) (xyc call hs u)).trans (by kernel_rfl)
theorem xto : FL x26 x6o := le1 (fn := Try.f28) (by kernel_rfl) (by kernel_rfl) (by kernel_rfl) (by kernel_rfl) (fun call hs t0 m => (congrFun (xyd call hs m.next) _).trans (by kernel_rfl)) (fun _ _ _ _ _ h => by unfold x6o at h; split at h <;> first | exact ⟨_, rfl⟩ | cases h)
noncomputable abbrev xb8 : Fs → O2 := x1eb Try.prog [.tmp 2]
noncomputable abbrev x1jh := XK call { f := x1q, u := u, nt := 67, hs := hs } xb8
noncomputable def xkv := x1ec x1q
noncomputable def xfn := nRs 6 xkv
noncomputable def xkw := nL xfn
noncomputable def xye := nR xfn
noncomputable def xkx := nR xkw
noncomputable def xky := nR xkx
noncomputable def xyf := nR xky
theorem xyg : x1jh call hs u xye xb8 eNil = (j0 (x3n call hs u)) := by kernel_rfl
theorem xyh (rec0 : AV → AV → AV → Mem → Nat → O2) : x1jh call hs u xyf (j3 rec0 57 58 59) (setE 0 (j0 (x3n call hs u)) eNil) = (j3 (x9c call hs u rec0) 57 58 59) := by kernel_rfl
theorem xyi : x1jh call hs u xky (j0 (x3n call hs u)) (setE 0 (j0 (x3n call hs u)) eNil) = (j3 (x2j call hs u NN) 57 58 59) := lp (Ln := fun n => j3 (x2j call hs u n) 57 58 59) (by kernel_rfl) rfl fun n => (xyh call hs u (x2j call hs u n)).trans (by kernel_rfl)
theorem xyj : x1jh call hs u xkx (j0 (x3n call hs u)) eNil = (j3 (x2j call hs u NN) 57 58 59) := bk (by kernel_rfl) (xyi call hs u)
theorem xyk : x1jh call hs u xkw (j0 (x3n call hs u)) eNil = (j1 (x9d call hs u) 1) := (sqN 1 (by kernel_rfl) (xyj call hs u)).trans (by kernel_rfl)
theorem xyl : x1jh call hs u xfn xb8 eNil = (j1 (x9d call hs u) 1) := sq2 (by kernel_rfl) (xyg call hs u) (xyk call hs u)
theorem xym : x1jh call hs u xkv xb8 eNil = (j1 (xdm call hs u) 0) := (sqN 6 (by kernel_rfl) (xyl call hs u)).trans (by kernel_rfl)
theorem xtp : FL x1q x6p := le1 (fn := Try.f29) (by kernel_rfl) (by kernel_rfl) (by kernel_rfl) (by kernel_rfl) (fun call hs t0 m => (congrFun (xym call hs m.next) _).trans (by kernel_rfl)) (fun _ _ _ _ _ h => by unfold x6p at h; split at h <;> first | exact ⟨_, rfl⟩ | cases h)
noncomputable abbrev xb9 : Fs → O2 := x1eb Try.prog [.tmp 4]
noncomputable abbrev x1ji := XK call { f := x4t, u := u, nt := 38, hs := hs } xb9
noncomputable def xkz := x1ec x4t
noncomputable def xfo := nRs 2 xkz
noncomputable def xl0 := nL xfo
noncomputable def xyn := nR xfo
noncomputable def xl1 := nR xl0
noncomputable def xl2 := nR xl1
noncomputable def xyo := nR xl2
theorem xyp : x1ji call hs u xyn xb9 eNil = (j0 (x4e call hs u)) := by kernel_rfl
theorem xyq (rec0 : AV → AV → AV → Mem → Nat → O2) : x1ji call hs u xyo (j3 rec0 2 3 5) (setE 0 (j0 (x4e call hs u)) eNil) = (j3 (xi0 call hs u rec0) 2 3 5) := by kernel_rfl
theorem xyr : x1ji call hs u xl2 (j0 (x4e call hs u)) (setE 0 (j0 (x4e call hs u)) eNil) = (j3 (x57 call hs u NN) 2 3 5) := lp (Ln := fun n => j3 (x57 call hs u n) 2 3 5) (by kernel_rfl) rfl fun n => (xyq call hs u (x57 call hs u n)).trans (by kernel_rfl)
theorem xys : x1ji call hs u xl1 (j0 (x4e call hs u)) eNil = (j3 (x57 call hs u NN) 2 3 5) := bk (by kernel_rfl) (xyr call hs u)
theorem xyt : x1ji call hs u xl0 (j0 (x4e call hs u)) eNil = (j2 (xdn call hs u) 2 3) := (sqN 1 (by kernel_rfl) (xys call hs u)).trans (by kernel_rfl)
theorem xyu : x1ji call hs u xfo xb9 eNil = (j2 (xdn call hs u) 2 3) := sq2 (by kernel_rfl) (xyp call hs u) (xyt call hs u)
theorem xyv : x1ji call hs u xkz xb9 eNil = (j2 (xi1 call hs u) 0 1) := (sqN 2 (by kernel_rfl) (xyu call hs u)).trans (by kernel_rfl)
theorem xtq : FL x4t xcb := le2 (fn := Try.f30) (by kernel_rfl) (by kernel_rfl) (by kernel_rfl) (by kernel_rfl) (fun call hs t0 t1 m => (congrFun (xyv call hs m.next) _).trans (by kernel_rfl)) (fun _ _ _ _ _ h => by unfold xcb at h; split at h <;> first | exact ⟨_, _, rfl⟩ | cases h)
noncomputable abbrev x8k : Fs → O2 := x1eb Try.prog [.cell 2 x63]
noncomputable abbrev x1f4 := XK call { f := x6q, u := u, nt := 119, hs := hs } x8k
noncomputable def xl3 := x1ec x6q
noncomputable def xfp := nRs 3 xl3
noncomputable def xl4 := nL xfp
noncomputable def xfq := nR xfp
noncomputable def xl5 := nL xfq
noncomputable def xyw := nR xfq
noncomputable def xl6 := nR xl5
noncomputable def xl7 := nR xl6
noncomputable def xl8 := nR xl7
noncomputable def xfr := nR xl8
noncomputable def xl9 := nL xfr
noncomputable def xyx := nR xfr
noncomputable def xla := nR xl9
noncomputable def xlb := nR xla
noncomputable def xlc := nR xlb
noncomputable def xld := nR xlc
noncomputable def xfs := nR xld
noncomputable def xyy := nL xfs
noncomputable def xyz := nR xfs
noncomputable def xle := nR xl4
noncomputable def xlf := nR xle
noncomputable def xlg := nR xlf
noncomputable def xft := nR xlg
noncomputable def xlh := nL xft
noncomputable def xz0 := nR xft
noncomputable def xli := nR xlh
noncomputable def xlj := nR xli
noncomputable def xlk := nR xlj
noncomputable def xll := nR xlk
noncomputable def xfu := nR xll
noncomputable def xz1 := nL xfu
noncomputable def xz2 := nR xfu
theorem xz3 : x1f4 call hs u xyw x8k eNil = (j2 (xg call hs u) 2 4) := by kernel_rfl
theorem xz4 (rec0 : AV → AV → AV → AV → AV → Mem → Nat → O2) : x1f4 call hs u xyx (j5 rec0 1 2 3 4 9) (setE 4 (j2 (xg call hs u) 2 4) eNil) = (j5 (xc call hs u rec0) 1 2 3 4 9) := by kernel_rfl
theorem xz5 (rec0 : AV → AV → AV → AV → AV → Mem → Nat → O2) (rec1 : AV → AV → AV → AV → AV → AV → Mem → Nat → O2) : x1f4 call hs u xyz (j6 rec1 1 2 3 4 9 10) (setE 6 (j5 (xc call hs u rec0) 1 2 3 4 9) (setE 5 (j5 (xc call hs u rec0) 1 2 3 4 9) (setE 4 (j2 (xg call hs u) 2 4) eNil))) = (j6 (x9f call hs u rec0 rec1) 1 2 3 4 9 10) := by kernel_rfl
theorem xz6 (rec0 : AV → AV → AV → AV → AV → Mem → Nat → O2) (rec1 : AV → AV → AV → AV → AV → AV → Mem → Nat → O2) : x1f4 call hs u xyy (j6 (x9f call hs u rec0 rec1) 1 2 3 4 9 10) (setE 6 (j5 (xc call hs u rec0) 1 2 3 4 9) (setE 5 (j5 (xc call hs u rec0) 1 2 3 4 9) (setE 4 (j2 (xg call hs u) 2 4) eNil))) = (j6 (xdo call hs u rec0 rec1) 1 2 3 4 9 10) := by kernel_rfl
theorem xz7 (rec0 : AV → AV → AV → AV → AV → Mem → Nat → O2) (rec1 : AV → AV → AV → AV → AV → AV → Mem → Nat → O2) : x1f4 call hs u xfs (j6 rec1 1 2 3 4 9 10) (setE 6 (j5 (xc call hs u rec0) 1 2 3 4 9) (setE 5 (j5 (xc call hs u rec0) 1 2 3 4 9) (setE 4 (j2 (xg call hs u) 2 4) eNil))) = (j6 (xdo call hs u rec0 rec1) 1 2 3 4 9 10) := sq2 (by kernel_rfl) (xz5 call hs u rec0 rec1) (xz6 call hs u rec0 rec1)
theorem xz8 (rec0 : AV → AV → AV → AV → AV → Mem → Nat → O2) (rec1 : AV → AV → AV → AV → AV → AV → Mem → Nat → O2) : x1f4 call hs u xld (j6 rec1 1 2 3 4 9 10) (setE 6 (j5 (xc call hs u rec0) 1 2 3 4 9) (setE 5 (j5 (xc call hs u rec0) 1 2 3 4 9) (setE 4 (j2 (xg call hs u) 2 4) eNil))) = (j6 (xi2 call hs u rec0 rec1) 1 2 3 4 9 10) := (sqN 1 (by kernel_rfl) (xz7 call hs u rec0 rec1)).trans (by kernel_rfl)
theorem xz9 (rec0 : AV → AV → AV → AV → AV → Mem → Nat → O2) : x1f4 call hs u xlc (j5 (xc call hs u rec0) 1 2 3 4 9) (setE 6 (j5 (xc call hs u rec0) 1 2 3 4 9) (setE 5 (j5 (xc call hs u rec0) 1 2 3 4 9) (setE 4 (j2 (xg call hs u) 2 4) eNil))) = (j6 (x58 call hs u rec0 NN) 1 2 3 4 9 10) := lp (Ln := fun n => j6 (x58 call hs u rec0 n) 1 2 3 4 9 10) (by kernel_rfl) rfl fun n => (xz8 call hs u rec0 (x58 call hs u rec0 n)).trans (by kernel_rfl)
theorem xza (rec0 : AV → AV → AV → AV → AV → Mem → Nat → O2) : x1f4 call hs u xlb (j5 (xc call hs u rec0) 1 2 3 4 9) (setE 5 (j5 (xc call hs u rec0) 1 2 3 4 9) (setE 4 (j2 (xg call hs u) 2 4) eNil)) = (j6 (x58 call hs u rec0 NN) 1 2 3 4 9 10) := bk (by kernel_rfl) (xz9 call hs u rec0)
theorem xzb (rec0 : AV → AV → AV → AV → AV → Mem → Nat → O2) : x1f4 call hs u xla (j5 (xc call hs u rec0) 1 2 3 4 9) (setE 5 (j5 (xc call hs u rec0) 1 2 3 4 9) (setE 4 (j2 (xg call hs u) 2 4) eNil)) = (j5 (x9g call hs u rec0) 1 2 3 4 9) := (sqN 1 (by kernel_rfl) (xza call hs u rec0)).trans (by kernel_rfl)
theorem xzc (rec0 : AV → AV → AV → AV → AV → Mem → Nat → O2) : x1f4 call hs u xl9 (j5 (xc call hs u rec0) 1 2 3 4 9) (setE 4 (j2 (xg call hs u) 2 4) eNil) = (j5 (x9g call hs u rec0) 1 2 3 4 9) := bk (by kernel_rfl) (xzb call hs u rec0)
theorem xzd (rec0 : AV → AV → AV → AV → AV → Mem → Nat → O2) : x1f4 call hs u xfr (j5 rec0 1 2 3 4 9) (setE 4 (j2 (xg call hs u) 2 4) eNil) = (j5 (x9g call hs u rec0) 1 2 3 4 9) := sq2 (by kernel_rfl) (xz4 call hs u rec0) (xzc call hs u rec0)
theorem xze (rec0 : AV → AV → AV → AV → AV → Mem → Nat → O2) : x1f4 call hs u xl8 (j5 rec0 1 2 3 4 9) (setE 4 (j2 (xg call hs u) 2 4) eNil) = (j5 (xi3 call hs u rec0) 1 2 3 4 9) := (sqN 1 (by kernel_rfl) (xzd call hs u rec0)).trans (by kernel_rfl)
theorem xzf : x1f4 call hs u xl7 (j2 (xg call hs u) 2 4) (setE 4 (j2 (xg call hs u) 2 4) eNil) = (j5 (x59 call hs u NN) 1 2 3 4 9) := lp (Ln := fun n => j5 (x59 call hs u n) 1 2 3 4 9) (by kernel_rfl) rfl fun n => (xze call hs u (x59 call hs u n)).trans (by kernel_rfl)
theorem xzg : x1f4 call hs u xl6 (j2 (xg call hs u) 2 4) eNil = (j5 (x59 call hs u NN) 1 2 3 4 9) := bk (by kernel_rfl) (xzf call hs u)
theorem xzh : x1f4 call hs u xl5 (j2 (xg call hs u) 2 4) eNil = (j4 (xd call hs u) 1 2 3 4) := (sqN 1 (by kernel_rfl) (xzg call hs u)).trans (by kernel_rfl)
theorem xzi : x1f4 call hs u xfq x8k eNil = (j4 (xd call hs u) 1 2 3 4) := sq2 (by kernel_rfl) (xz3 call hs u) (xzh call hs u)
theorem xzj (rec2 : AV → AV → AV → AV → AV → Mem → Nat → O2) : x1f4 call hs u xz0 (j5 rec2 1 2 3 4 5) (setE 0 (j4 (xd call hs u) 1 2 3 4) eNil) = (j5 (xe call hs u rec2) 1 2 3 4 5) := by kernel_rfl
theorem xzk (rec2 : AV → AV → AV → AV → AV → Mem → Nat → O2) (rec3 : AV → AV → AV → AV → AV → AV → Mem → Nat → O2) : x1f4 call hs u xz2 (j6 rec3 1 2 3 4 5 6) (setE 2 (j5 (xe call hs u rec2) 1 2 3 4 5) (setE 1 (j5 (xe call hs u rec2) 1 2 3 4 5) (setE 0 (j4 (xd call hs u) 1 2 3 4) eNil))) = (j6 (x9h call hs u rec2 rec3) 1 2 3 4 5 6) := by kernel_rfl
theorem xzl (rec2 : AV → AV → AV → AV → AV → Mem → Nat → O2) (rec3 : AV → AV → AV → AV → AV → AV → Mem → Nat → O2) : x1f4 call hs u xz1 (j6 (x9h call hs u rec2 rec3) 1 2 3 4 5 6) (setE 2 (j5 (xe call hs u rec2) 1 2 3 4 5) (setE 1 (j5 (xe call hs u rec2) 1 2 3 4 5) (setE 0 (j4 (xd call hs u) 1 2 3 4) eNil))) = (j6 (xdp call hs u rec2 rec3) 1 2 3 4 5 6) := by kernel_rfl
theorem xzm (rec2 : AV → AV → AV → AV → AV → Mem → Nat → O2) (rec3 : AV → AV → AV → AV → AV → AV → Mem → Nat → O2) : x1f4 call hs u xfu (j6 rec3 1 2 3 4 5 6) (setE 2 (j5 (xe call hs u rec2) 1 2 3 4 5) (setE 1 (j5 (xe call hs u rec2) 1 2 3 4 5) (setE 0 (j4 (xd call hs u) 1 2 3 4) eNil))) = (j6 (xdp call hs u rec2 rec3) 1 2 3 4 5 6) := sq2 (by kernel_rfl) (xzk call hs u rec2 rec3) (xzl call hs u rec2 rec3)
theorem xzn (rec2 : AV → AV → AV → AV → AV → Mem → Nat → O2) (rec3 : AV → AV → AV → AV → AV → AV → Mem → Nat → O2) : x1f4 call hs u xll (j6 rec3 1 2 3 4 5 6) (setE 2 (j5 (xe call hs u rec2) 1 2 3 4 5) (setE 1 (j5 (xe call hs u rec2) 1 2 3 4 5) (setE 0 (j4 (xd call hs u) 1 2 3 4) eNil))) = (j6 (xi4 call hs u rec2 rec3) 1 2 3 4 5 6) := (sqN 1 (by kernel_rfl) (xzm call hs u rec2 rec3)).trans (by kernel_rfl)
theorem xzo (rec2 : AV → AV → AV → AV → AV → Mem → Nat → O2) : x1f4 call hs u xlk (j5 (xe call hs u rec2) 1 2 3 4 5) (setE 2 (j5 (xe call hs u rec2) 1 2 3 4 5) (setE 1 (j5 (xe call hs u rec2) 1 2 3 4 5) (setE 0 (j4 (xd call hs u) 1 2 3 4) eNil))) = (j6 (x5a call hs u rec2 NN) 1 2 3 4 5 6) := lp (Ln := fun n => j6 (x5a call hs u rec2 n) 1 2 3 4 5 6) (by kernel_rfl) rfl fun n => (xzn call hs u rec2 (x5a call hs u rec2 n)).trans (by kernel_rfl)
theorem xzp (rec2 : AV → AV → AV → AV → AV → Mem → Nat → O2) : x1f4 call hs u xlj (j5 (xe call hs u rec2) 1 2 3 4 5) (setE 1 (j5 (xe call hs u rec2) 1 2 3 4 5) (setE 0 (j4 (xd call hs u) 1 2 3 4) eNil)) = (j6 (x5a call hs u rec2 NN) 1 2 3 4 5 6) := bk (by kernel_rfl) (xzo call hs u rec2)
theorem xzq (rec2 : AV → AV → AV → AV → AV → Mem → Nat → O2) : x1f4 call hs u xli (j5 (xe call hs u rec2) 1 2 3 4 5) (setE 1 (j5 (xe call hs u rec2) 1 2 3 4 5) (setE 0 (j4 (xd call hs u) 1 2 3 4) eNil)) = (j5 (x9i call hs u rec2) 1 2 3 4 5) := (sqN 1 (by kernel_rfl) (xzp call hs u rec2)).trans (by kernel_rfl)
theorem xzr (rec2 : AV → AV → AV → AV → AV → Mem → Nat → O2) : x1f4 call hs u xlh (j5 (xe call hs u rec2) 1 2 3 4 5) (setE 0 (j4 (xd call hs u) 1 2 3 4) eNil) = (j5 (x9i call hs u rec2) 1 2 3 4 5) := bk (by kernel_rfl) (xzq call hs u rec2)
theorem xzs (rec2 : AV → AV → AV → AV → AV → Mem → Nat → O2) : x1f4 call hs u xft (j5 rec2 1 2 3 4 5) (setE 0 (j4 (xd call hs u) 1 2 3 4) eNil) = (j5 (x9i call hs u rec2) 1 2 3 4 5) := sq2 (by kernel_rfl) (xzj call hs u rec2) (xzr call hs u rec2)
theorem xzt (rec2 : AV → AV → AV → AV → AV → Mem → Nat → O2) : x1f4 call hs u xlg (j5 rec2 1 2 3 4 5) (setE 0 (j4 (xd call hs u) 1 2 3 4) eNil) = (j5 (xi5 call hs u rec2) 1 2 3 4 5) := (sqN 1 (by kernel_rfl) (xzs call hs u rec2)).trans (by kernel_rfl)
theorem xzu : x1f4 call hs u xlf (j4 (xd call hs u) 1 2 3 4) (setE 0 (j4 (xd call hs u) 1 2 3 4) eNil) = (j5 (x5b call hs u NN) 1 2 3 4 5) := lp (Ln := fun n => j5 (x5b call hs u n) 1 2 3 4 5) (by kernel_rfl) rfl fun n => (xzt call hs u (x5b call hs u n)).trans (by kernel_rfl)
theorem xzv : x1f4 call hs u xle (j4 (xd call hs u) 1 2 3 4) eNil = (j5 (x5b call hs u NN) 1 2 3 4 5) := bk (by kernel_rfl) (xzu call hs u)
theorem xzw : x1f4 call hs u xl4 (j4 (xd call hs u) 1 2 3 4) eNil = (j4 (xdq call hs u) 1 2 3 4) := (sqN 1 (by kernel_rfl) (xzv call hs u)).trans (by kernel_rfl)
theorem xzx : x1f4 call hs u xfp x8k eNil = (j4 (xdq call hs u) 1 2 3 4) := sq2 (by kernel_rfl) (xzi call hs u) (xzw call hs u)
theorem xzy : x1f4 call hs u xl3 x8k eNil = (j1 (xi6 call hs u) 0) := (sqN 3 (by kernel_rfl) (xzx call hs u)).trans (by kernel_rfl)
theorem xtr : FL x6q xcc := le1 (fn := Try.f31) (by kernel_rfl) (by kernel_rfl) (by kernel_rfl) (by kernel_rfl) (fun call hs t0 m => (congrFun (xzy call hs m.next) _).trans (by kernel_rfl)) (fun _ _ _ _ _ h => by unfold xcc at h; split at h <;> first | exact ⟨_, rfl⟩ | cases h)
noncomputable abbrev xlm : Fs → O2 := x1eb Try.prog [.cell 6 xde, .tmp 7]
noncomputable abbrev x1tk := XK call { f := x6r, u := u, nt := 66, hs := hs } xlm
noncomputable def xzz := x1ec x6r
theorem x100 : x1tk call hs u xzz xlm eNil = (j3 (xi7 call hs u) 0 1 2) := by kernel_rfl
theorem xts : FL x6r xcd := le3 (fn := Try.f32) (by kernel_rfl) (by kernel_rfl) (by kernel_rfl) (by kernel_rfl) (fun call hs t0 t1 t2 m => (congrFun (x100 call hs m.next) _).trans (by kernel_rfl)) (fun _ _ _ _ _ h => by unfold xcd at h; split at h <;> first | exact ⟨_, _, _, rfl⟩ | cases h)
noncomputable abbrev xba : Fs → O2 := x1eb Try.prog [.tmp 4]
noncomputable abbrev x1jj := XK call { f := x41, u := u, nt := 26, hs := hs } xba
noncomputable def xln := x1ec x41
noncomputable def xfv := nRs 2 xln
noncomputable def xlo := nL xfv
noncomputable def x101 := nR xfv
noncomputable def xlp := nR xlo
noncomputable def xlq := nR xlp
noncomputable def x102 := nR xlq
theorem x103 : x1jj call hs u x101 xba eNil = (j0 (x4f call hs u)) := by kernel_rfl
theorem x104 (rec0 : AV → AV → AV → Mem → Nat → O2) : x1jj call hs u x102 (j3 rec0 0 1 5) (setE 0 (j0 (x4f call hs u)) eNil) = (j3 (xi8 call hs u rec0) 0 1 5) := by kernel_rfl
theorem x105 : x1jj call hs u xlq (j0 (x4f call hs u)) (setE 0 (j0 (x4f call hs u)) eNil) = (j3 (x5c call hs u NN) 0 1 5) := lp (Ln := fun n => j3 (x5c call hs u n) 0 1 5) (by kernel_rfl) rfl fun n => (x104 call hs u (x5c call hs u n)).trans (by kernel_rfl)
theorem x106 : x1jj call hs u xlp (j0 (x4f call hs u)) eNil = (j3 (x5c call hs u NN) 0 1 5) := bk (by kernel_rfl) (x105 call hs u)
theorem x107 : x1jj call hs u xlo (j0 (x4f call hs u)) eNil = (j2 (xdr call hs u) 0 1) := (sqN 1 (by kernel_rfl) (x106 call hs u)).trans (by kernel_rfl)
theorem x108 : x1jj call hs u xfv xba eNil = (j2 (xdr call hs u) 0 1) := sq2 (by kernel_rfl) (x103 call hs u) (x107 call hs u)
theorem x109 : x1jj call hs u xln xba eNil = (j2 (xi9 call hs u) 0 1) := (sqN 2 (by kernel_rfl) (x108 call hs u)).trans (by kernel_rfl)
theorem xtt : FL x41 xce := le2 (fn := Try.f34) (by kernel_rfl) (by kernel_rfl) (by kernel_rfl) (by kernel_rfl) (fun call hs t0 t1 m => (congrFun (x109 call hs m.next) _).trans (by kernel_rfl)) (fun _ _ _ _ _ h => by unfold xce at h; split at h <;> first | exact ⟨_, _, rfl⟩ | cases h)
noncomputable abbrev xlr : Fs → O2 := x1eb Try.prog [.tmp 6]
noncomputable abbrev x1tl := XK call { f := x9, u := u, nt := 15, hs := hs } xlr
noncomputable def x10a := x1ec x9
theorem x10b : x1tl call hs u x10a xlr eNil = (j3 (xds call hs u) 0 1 2) := by kernel_rfl
theorem xtu : FL x9 x6s := le3 (fn := Try.f36) (by kernel_rfl) (by kernel_rfl) (by kernel_rfl) (by kernel_rfl) (fun call hs t0 t1 t2 m => (congrFun (x10b call hs m.next) _).trans (by kernel_rfl)) (fun _ _ _ _ _ h => by unfold x6s at h; split at h <;> first | exact ⟨_, _, _, rfl⟩ | cases h)
noncomputable abbrev xls : Fs → O2 := x1eb Try.prog [.tmp 4, .tmp 5]
noncomputable abbrev x1tm := XK call { f := x8v, u := u, nt := 29, hs := hs } xls
noncomputable def x10c := x1ec x8v
theorem x10d : x1tm call hs u x10c xls eNil = (j2 (xia call hs u) 0 1) := by kernel_rfl
theorem xtv : FL x8v xcf := le2 (fn := Try.f39) (by kernel_rfl) (by kernel_rfl) (by kernel_rfl) (by kernel_rfl) (fun call hs t0 t1 m => (congrFun (x10d call hs m.next) _).trans (by kernel_rfl)) (fun _ _ _ _ _ h => by unfold xcf at h; split at h <;> first | exact ⟨_, _, rfl⟩ | cases h)
noncomputable abbrev xlt : Fs → O2 := x1eb Try.prog [.tmp 2]
noncomputable abbrev x1tn := XK call { f := x1b, u := u, nt := 6, hs := hs } xlt
noncomputable def x10e := x1ec x1b
theorem x10f : x1tn call hs u x10e xlt eNil = (j1 (x9j call hs u) 0) := by kernel_rfl
theorem xtw : FL x1b x4u := le1 (fn := Try.f40) (by kernel_rfl) (by kernel_rfl) (by kernel_rfl) (by kernel_rfl) (fun call hs t0 m => (congrFun (x10f call hs m.next) _).trans (by kernel_rfl)) (fun _ _ _ _ _ h => by unfold x4u at h; split at h <;> first | exact ⟨_, rfl⟩ | cases h)
noncomputable abbrev xbb : Fs → O2 := x1eb Try.prog [.cell 2 xfa, .tmp 3, .tmp 4, .tmp 5]
noncomputable abbrev x1hy := XK call { f := x31, u := u, nt := 72, hs := hs } xbb
noncomputable def xlu := x1ec x31
noncomputable def xfw := nRs 5 xlu
noncomputable def xlv := nL xfw
noncomputable def x10g := nR xfw
noncomputable def xlw := nR xlv
noncomputable def xlx := nR xlw
noncomputable def xly := nR xlx
noncomputable def xfx := nRs 2 xly
noncomputable def x10h := nL xfx
noncomputable def x10i := nR xfx
theorem x10j : x1hy call hs u x10g xbb eNil = (j4 (xz call hs u) 2 7 8 9) := by kernel_rfl
theorem x10k (rec0 : AV → AV → AV → AV → AV → AV → AV → Mem → Nat → O2) : x1hy call hs u x10i (j7 rec0 2 7 8 9 37 38 39) (setE 0 (j4 (xz call hs u) 2 7 8 9) eNil) = (j7 (x5d call hs u rec0) 2 7 8 9 37 38 39) := by kernel_rfl
theorem x10l (rec0 : AV → AV → AV → AV → AV → AV → AV → Mem → Nat → O2) : x1hy call hs u x10h (j7 (x5d call hs u rec0) 2 7 8 9 37 38 39) (setE 0 (j4 (xz call hs u) 2 7 8 9) eNil) = (j7 (x7w call hs u rec0) 2 7 8 9 37 38 39) := by kernel_rfl
theorem x10m (rec0 : AV → AV → AV → AV → AV → AV → AV → Mem → Nat → O2) : x1hy call hs u xfx (j7 rec0 2 7 8 9 37 38 39) (setE 0 (j4 (xz call hs u) 2 7 8 9) eNil) = (j7 (x7w call hs u rec0) 2 7 8 9 37 38 39) := sq2 (by kernel_rfl) (x10k call hs u rec0) (x10l call hs u rec0)
theorem x10n (rec0 : AV → AV → AV → AV → AV → AV → AV → Mem → Nat → O2) : x1hy call hs u xly (j7 rec0 2 7 8 9 37 38 39) (setE 0 (j4 (xz call hs u) 2 7 8 9) eNil) = (j7 (x7x call hs u rec0) 2 7 8 9 37 38 39) := (sqN 2 (by kernel_rfl) (x10m call hs u rec0)).trans (by kernel_rfl)
theorem x10o : x1hy call hs u xlx (j4 (xz call hs u) 2 7 8 9) (setE 0 (j4 (xz call hs u) 2 7 8 9) eNil) = (j7 (x1g call hs u NN) 2 7 8 9 37 38 39) := lp (Ln := fun n => j7 (x1g call hs u n) 2 7 8 9 37 38 39) (by kernel_rfl) rfl fun n => (x10n call hs u (x1g call hs u n)).trans (by kernel_rfl)
theorem x10p : x1hy call hs u xlw (j4 (xz call hs u) 2 7 8 9) eNil = (j7 (x1g call hs u NN) 2 7 8 9 37 38 39) := bk (by kernel_rfl) (x10o call hs u)
theorem x10q : x1hy call hs u xlv (j4 (xz call hs u) 2 7 8 9) eNil = (j4 (x9k call hs u) 2 7 8 9) := (sqN 1 (by kernel_rfl) (x10p call hs u)).trans (by kernel_rfl)
theorem x10r : x1hy call hs u xfw xbb eNil = (j4 (x9k call hs u) 2 7 8 9) := sq2 (by kernel_rfl) (x10j call hs u) (x10q call hs u)
theorem x10s : x1hy call hs u xlu xbb eNil = (j1 (x9l call hs u) 0) := (sqN 5 (by kernel_rfl) (x10r call hs u)).trans (by kernel_rfl)
theorem xtx : FL x31 x8w := le1 (fn := Try.f42) (by kernel_rfl) (by kernel_rfl) (by kernel_rfl) (by kernel_rfl) (fun call hs t0 m => (congrFun (x10s call hs m.next) _).trans (by kernel_rfl)) (fun _ _ _ _ _ h => by unfold x8w at h; split at h <;> first | exact ⟨_, rfl⟩ | cases h)
noncomputable abbrev xlz : Fs → O2 := x1eb Try.prog [.tmp 4, .tmp 5]
noncomputable abbrev x1to := XK call { f := x8x, u := u, nt := 21, hs := hs } xlz
noncomputable def x10t := x1ec x8x
theorem x10u : x1to call hs u x10t xlz eNil = (j2 (xib call hs u) 0 1) := by kernel_rfl
theorem xty : FL x8x xcg := le2 (fn := Try.f46) (by kernel_rfl) (by kernel_rfl) (by kernel_rfl) (by kernel_rfl) (fun call hs t0 t1 m => (congrFun (x10u call hs m.next) _).trans (by kernel_rfl)) (fun _ _ _ _ _ h => by unfold xcg at h; split at h <;> first | exact ⟨_, _, rfl⟩ | cases h)
noncomputable abbrev xbc : Fs → O2 := x1eb Try.prog [.tmp 4, .tmp 5]
noncomputable abbrev x1gq := XK call { f := x32, u := u, nt := 101, hs := hs } xbc
noncomputable def xm0 := x1ec x32
noncomputable def xfy := nRs 4 xm0
noncomputable def xm1 := nL xfy
noncomputable def x10v := nR xfy
noncomputable def xm2 := nR xm1
noncomputable def xm3 := nR xm2
noncomputable def xm4 := nR xm3
noncomputable def xfz := nRs 2 xm4
noncomputable def xm5 := nL xfz
noncomputable def x10w := nR xfz
noncomputable def xm6 := nR xm5
noncomputable def xg0 := nRs 3 xm6
noncomputable def x10x := nL xg0
noncomputable def x10y := nR xg0
theorem x10z : x1gq call hs u x10v xbc eNil = (j1 (xm call hs u) 7) := by kernel_rfl
theorem x110 (rec0 : AV → AV → AV → AV → AV → AV → Mem → Nat → O2) : x1gq call hs u x10w (j6 rec0 1 2 7 21 22 23) (setE 0 (j1 (xm call hs u) 7) eNil) = (j6 (xu call hs u rec0) 1 2 7 21 22 23) := by kernel_rfl
theorem x111 (rec0 : AV → AV → AV → AV → AV → AV → Mem → Nat → O2) : x1gq call hs u x10y (j6 (xu call hs u rec0) 1 2 7 21 22 23) (setE 1 (j6 (xu call hs u rec0) 1 2 7 21 22 23) (setE 0 (j1 (xm call hs u) 7) eNil)) = (j10 (x7y call hs u rec0) 1 2 7 8 10 11 12 21 22 23) := by kernel_rfl
theorem x112 (rec0 : AV → AV → AV → AV → AV → AV → Mem → Nat → O2) : x1gq call hs u x10x (j10 (x7y call hs u rec0) 1 2 7 8 10 11 12 21 22 23) (setE 1 (j6 (xu call hs u rec0) 1 2 7 21 22 23) (setE 0 (j1 (xm call hs u) 7) eNil)) = (j10 (x9m call hs u rec0) 1 2 7 8 10 11 12 21 22 23) := by kernel_rfl
theorem x113 (rec0 : AV → AV → AV → AV → AV → AV → Mem → Nat → O2) : x1gq call hs u xg0 (j6 (xu call hs u rec0) 1 2 7 21 22 23) (setE 1 (j6 (xu call hs u rec0) 1 2 7 21 22 23) (setE 0 (j1 (xm call hs u) 7) eNil)) = (j10 (x9m call hs u rec0) 1 2 7 8 10 11 12 21 22 23) := sq2 (by kernel_rfl) (x111 call hs u rec0) (x112 call hs u rec0)
theorem x114 (rec0 : AV → AV → AV → AV → AV → AV → Mem → Nat → O2) : x1gq call hs u xm6 (j6 (xu call hs u rec0) 1 2 7 21 22 23) (setE 1 (j6 (xu call hs u rec0) 1 2 7 21 22 23) (setE 0 (j1 (xm call hs u) 7) eNil)) = (j6 (x7z call hs u rec0) 1 2 7 21 22 23) := (sqN 3 (by kernel_rfl) (x113 call hs u rec0)).trans (by kernel_rfl)
theorem x115 (rec0 : AV → AV → AV → AV → AV → AV → Mem → Nat → O2) : x1gq call hs u xm5 (j6 (xu call hs u rec0) 1 2 7 21 22 23) (setE 0 (j1 (xm call hs u) 7) eNil) = (j6 (x7z call hs u rec0) 1 2 7 21 22 23) := bk (by kernel_rfl) (x114 call hs u rec0)
theorem x116 (rec0 : AV → AV → AV → AV → AV → AV → Mem → Nat → O2) : x1gq call hs u xfz (j6 rec0 1 2 7 21 22 23) (setE 0 (j1 (xm call hs u) 7) eNil) = (j6 (x7z call hs u rec0) 1 2 7 21 22 23) := sq2 (by kernel_rfl) (x110 call hs u rec0) (x115 call hs u rec0)
theorem x117 (rec0 : AV → AV → AV → AV → AV → AV → Mem → Nat → O2) : x1gq call hs u xm4 (j6 rec0 1 2 7 21 22 23) (setE 0 (j1 (xm call hs u) 7) eNil) = (j6 (x9n call hs u rec0) 1 2 7 21 22 23) := (sqN 2 (by kernel_rfl) (x116 call hs u rec0)).trans (by kernel_rfl)
theorem x118 : x1gq call hs u xm3 (j1 (xm call hs u) 7) (setE 0 (j1 (xm call hs u) 7) eNil) = (j6 (x2k call hs u NN) 1 2 7 21 22 23) := lp (Ln := fun n => j6 (x2k call hs u n) 1 2 7 21 22 23) (by kernel_rfl) rfl fun n => (x117 call hs u (x2k call hs u n)).trans (by kernel_rfl)
theorem x119 : x1gq call hs u xm2 (j1 (xm call hs u) 7) eNil = (j6 (x2k call hs u NN) 1 2 7 21 22 23) := bk (by kernel_rfl) (x118 call hs u)
theorem x11a : x1gq call hs u xm1 (j1 (xm call hs u) 7) eNil = (j3 (x9o call hs u) 1 2 7) := (sqN 1 (by kernel_rfl) (x119 call hs u)).trans (by kernel_rfl)
theorem x11b : x1gq call hs u xfy xbc eNil = (j3 (x9o call hs u) 1 2 7) := sq2 (by kernel_rfl) (x10z call hs u) (x11a call hs u)
theorem x11c : x1gq call hs u xm0 xbc eNil = (j2 (x80 call hs u) 0 1) := (sqN 4 (by kernel_rfl) (x11b call hs u)).trans (by kernel_rfl)
theorem xtz : FL x32 x42 := le2 (fn := Try.f47) (by kernel_rfl) (by kernel_rfl) (by kernel_rfl) (by kernel_rfl) (fun call hs t0 t1 m => (congrFun (x11c call hs m.next) _).trans (by kernel_rfl)) (fun _ _ _ _ _ h => by unfold x42 at h; split at h <;> first | exact ⟨_, _, rfl⟩ | cases h)
noncomputable abbrev xm7 : Fs → O2 := x1eb Try.prog [.cell 2 xfa]
noncomputable abbrev x1tp := XK call { f := x27, u := u, nt := 11, hs := hs } xm7
noncomputable def x11d := x1ec x27
theorem x11e : x1tp call hs u x11d xm7 eNil = (j1 (xdt call hs u) 0) := by kernel_rfl
theorem xu0 : FL x27 x6t := le1 (fn := Try.f48) (by kernel_rfl) (by kernel_rfl) (by kernel_rfl) (by kernel_rfl) (fun call hs t0 m => (congrFun (x11e call hs m.next) _).trans (by kernel_rfl)) (fun _ _ _ _ _ h => by unfold x6t at h; split at h <;> first | exact ⟨_, rfl⟩ | cases h)
noncomputable abbrev xm8 : Fs → O2 := x1eb Try.prog [.tmp 2]
noncomputable abbrev x1tq := XK call { f := x6u, u := u, nt := 18, hs := hs } xm8
noncomputable def x11f := x1ec x6u
theorem x11g : x1tq call hs u x11f xm8 eNil = (j1 (xic call hs u) 0) := by kernel_rfl
theorem xu1 : FL x6u xch := le1 (fn := Try.f49) (by kernel_rfl) (by kernel_rfl) (by kernel_rfl) (by kernel_rfl) (fun call hs t0 m => (congrFun (x11g call hs m.next) _).trans (by kernel_rfl)) (fun _ _ _ _ _ h => by unfold xch at h; split at h <;> first | exact ⟨_, rfl⟩ | cases h)
noncomputable abbrev xbd : Fs → O2 := x1eb Try.prog [.tmp 4, .tmp 5]
noncomputable abbrev x1hz := XK call { f := x6v, u := u, nt := 77, hs := hs } xbd
noncomputable def xm9 := x1ec x6v
noncomputable def xg1 := nRs 3 xm9
noncomputable def xma := nL xg1
noncomputable def x11h := nR xg1
noncomputable def xmb := nR xma
noncomputable def xmc := nR xmb
noncomputable def xmd := nR xmc
noncomputable def xg2 := nR xmd
noncomputable def x11i := nL xg2
noncomputable def x11j := nR xg2
theorem x11k : x1hz call hs u x11h xbd eNil = (j1 (x1s call hs u) 6) := by kernel_rfl
theorem x11l (rec0 : AV → AV → AV → AV → Mem → Nat → O2) : x1hz call hs u x11j (j4 rec0 1 2 6 7) (setE 0 (j1 (x1s call hs u) 6) eNil) = (j4 (x9p call hs u rec0) 1 2 6 7) := by kernel_rfl
theorem x11m (rec0 : AV → AV → AV → AV → Mem → Nat → O2) : x1hz call hs u x11i (j4 (x9p call hs u rec0) 1 2 6 7) (setE 0 (j1 (x1s call hs u) 6) eNil) = (j4 (xdu call hs u rec0) 1 2 6 7) := by kernel_rfl
theorem x11n (rec0 : AV → AV → AV → AV → Mem → Nat → O2) : x1hz call hs u xg2 (j4 rec0 1 2 6 7) (setE 0 (j1 (x1s call hs u) 6) eNil) = (j4 (xdu call hs u rec0) 1 2 6 7) := sq2 (by kernel_rfl) (x11l call hs u rec0) (x11m call hs u rec0)
theorem x11o (rec0 : AV → AV → AV → AV → Mem → Nat → O2) : x1hz call hs u xmd (j4 rec0 1 2 6 7) (setE 0 (j1 (x1s call hs u) 6) eNil) = (j4 (xid call hs u rec0) 1 2 6 7) := (sqN 1 (by kernel_rfl) (x11n call hs u rec0)).trans (by kernel_rfl)
theorem x11p : x1hz call hs u xmc (j1 (x1s call hs u) 6) (setE 0 (j1 (x1s call hs u) 6) eNil) = (j4 (x5e call hs u NN) 1 2 6 7) := lp (Ln := fun n => j4 (x5e call hs u n) 1 2 6 7) (by kernel_rfl) rfl fun n => (x11o call hs u (x5e call hs u n)).trans (by kernel_rfl)
theorem x11q : x1hz call hs u xmb (j1 (x1s call hs u) 6) eNil = (j4 (x5e call hs u NN) 1 2 6 7) := bk (by kernel_rfl) (x11p call hs u)
theorem x11r : x1hz call hs u xma (j1 (x1s call hs u) 6) eNil = (j3 (xdv call hs u) 1 2 6) := (sqN 1 (by kernel_rfl) (x11q call hs u)).trans (by kernel_rfl)
theorem x11s : x1hz call hs u xg1 xbd eNil = (j3 (xdv call hs u) 1 2 6) := sq2 (by kernel_rfl) (x11k call hs u) (x11r call hs u)
theorem x11t : x1hz call hs u xm9 xbd eNil = (j2 (xie call hs u) 0 1) := (sqN 3 (by kernel_rfl) (x11s call hs u)).trans (by kernel_rfl)
theorem xu2 : FL x6v xci := le2 (fn := Try.f50) (by kernel_rfl) (by kernel_rfl) (by kernel_rfl) (by kernel_rfl) (fun call hs t0 t1 m => (congrFun (x11t call hs m.next) _).trans (by kernel_rfl)) (fun _ _ _ _ _ h => by unfold xci at h; split at h <;> first | exact ⟨_, _, rfl⟩ | cases h)
noncomputable abbrev xme : Fs → O2 := x1eb Try.prog [.tmp 2]
noncomputable abbrev x1tr := XK call { f := x43, u := u, nt := 10, hs := hs } xme
noncomputable def x11u := x1ec x43
theorem x11v : x1tr call hs u x11u xme eNil = (j1 (xdw call hs u) 0) := by kernel_rfl
theorem xu3 : FL x43 x6w := le1 (fn := Try.f51) (by kernel_rfl) (by kernel_rfl) (by kernel_rfl) (by kernel_rfl) (fun call hs t0 m => (congrFun (x11v call hs m.next) _).trans (by kernel_rfl)) (fun _ _ _ _ _ h => by unfold x6w at h; split at h <;> first | exact ⟨_, rfl⟩ | cases h)
noncomputable abbrev xbe : Fs → O2 := x1eb Try.prog [.tmp 4, .tmp 5]
noncomputable abbrev x1i0 := XK call { f := x8y, u := u, nt := 78, hs := hs } xbe
noncomputable def xmf := x1ec x8y
noncomputable def xg3 := nRs 3 xmf
noncomputable def xmg := nL xg3
noncomputable def x11w := nR xg3
noncomputable def xmh := nR xmg
noncomputable def xmi := nR xmh
noncomputable def xmj := nR xmi
noncomputable def xg4 := nR xmj
noncomputable def x11x := nL xg4
noncomputable def x11y := nR xg4
theorem x11z : x1i0 call hs u x11w xbe eNil = (j1 (x1t call hs u) 6) := by kernel_rfl
theorem x120 (rec0 : AV → AV → AV → AV → Mem → Nat → O2) : x1i0 call hs u x11y (j4 rec0 2 3 6 7) (setE 0 (j1 (x1t call hs u) 6) eNil) = (j4 (x9q call hs u rec0) 2 3 6 7) := by kernel_rfl
theorem x121 (rec0 : AV → AV → AV → AV → Mem → Nat → O2) : x1i0 call hs u x11x (j4 (x9q call hs u rec0) 2 3 6 7) (setE 0 (j1 (x1t call hs u) 6) eNil) = (j4 (xdx call hs u rec0) 2 3 6 7) := by kernel_rfl
theorem x122 (rec0 : AV → AV → AV → AV → Mem → Nat → O2) : x1i0 call hs u xg4 (j4 rec0 2 3 6 7) (setE 0 (j1 (x1t call hs u) 6) eNil) = (j4 (xdx call hs u rec0) 2 3 6 7) := sq2 (by kernel_rfl) (x120 call hs u rec0) (x121 call hs u rec0)
theorem x123 (rec0 : AV → AV → AV → AV → Mem → Nat → O2) : x1i0 call hs u xmj (j4 rec0 2 3 6 7) (setE 0 (j1 (x1t call hs u) 6) eNil) = (j4 (xif call hs u rec0) 2 3 6 7) := (sqN 1 (by kernel_rfl) (x122 call hs u rec0)).trans (by kernel_rfl)
theorem x124 : x1i0 call hs u xmi (j1 (x1t call hs u) 6) (setE 0 (j1 (x1t call hs u) 6) eNil) = (j4 (x5f call hs u NN) 2 3 6 7) := lp (Ln := fun n => j4 (x5f call hs u n) 2 3 6 7) (by kernel_rfl) rfl fun n => (x123 call hs u (x5f call hs u n)).trans (by kernel_rfl)
theorem x125 : x1i0 call hs u xmh (j1 (x1t call hs u) 6) eNil = (j4 (x5f call hs u NN) 2 3 6 7) := bk (by kernel_rfl) (x124 call hs u)
theorem x126 : x1i0 call hs u xmg (j1 (x1t call hs u) 6) eNil = (j3 (xdz call hs u) 2 3 6) := (sqN 1 (by kernel_rfl) (x125 call hs u)).trans (by kernel_rfl)
theorem x127 : x1i0 call hs u xg3 xbe eNil = (j3 (xdz call hs u) 2 3 6) := sq2 (by kernel_rfl) (x11z call hs u) (x126 call hs u)
theorem x128 : x1i0 call hs u xmf xbe eNil = (j2 (xig call hs u) 0 1) := (sqN 3 (by kernel_rfl) (x127 call hs u)).trans (by kernel_rfl)
theorem xu4 : FL x8y xcj := le2 (fn := Try.f54) (by kernel_rfl) (by kernel_rfl) (by kernel_rfl) (by kernel_rfl) (fun call hs t0 t1 m => (congrFun (x128 call hs m.next) _).trans (by kernel_rfl)) (fun _ _ _ _ _ h => by unfold xcj at h; split at h <;> first | exact ⟨_, _, rfl⟩ | cases h)
noncomputable abbrev xbf : Fs → O2 := x1eb Try.prog [.tmp 4]
noncomputable abbrev x1jk := XK call { f := x6x, u := u, nt := 32, hs := hs } xbf
noncomputable def xmk := x1ec x6x
noncomputable def xg5 := nRs 2 xmk
noncomputable def xml := nL xg5
noncomputable def x129 := nR xg5
noncomputable def xmm := nR xml
noncomputable def xmn := nR xmm
noncomputable def x12a := nR xmn
theorem x12b : x1jk call hs u x129 xbf eNil = (j1 (x4g call hs u) 5) := by kernel_rfl
theorem x12c (rec0 : AV → AV → AV → AV → Mem → Nat → O2) : x1jk call hs u x12a (j4 rec0 1 2 5 6) (setE 0 (j1 (x4g call hs u) 5) eNil) = (j4 (xih call hs u rec0) 1 2 5 6) := by kernel_rfl
theorem x12d : x1jk call hs u xmn (j1 (x4g call hs u) 5) (setE 0 (j1 (x4g call hs u) 5) eNil) = (j4 (x5g call hs u NN) 1 2 5 6) := lp (Ln := fun n => j4 (x5g call hs u n) 1 2 5 6) (by kernel_rfl) rfl fun n => (x12c call hs u (x5g call hs u n)).trans (by kernel_rfl)
theorem x12e : x1jk call hs u xmm (j1 (x4g call hs u) 5) eNil = (j4 (x5g call hs u NN) 1 2 5 6) := bk (by kernel_rfl) (x12d call hs u)
theorem x12f : x1jk call hs u xml (j1 (x4g call hs u) 5) eNil = (j3 (xe0 call hs u) 1 2 5) := (sqN 1 (by kernel_rfl) (x12e call hs u)).trans (by kernel_rfl)
theorem x12g : x1jk call hs u xg5 xbf eNil = (j3 (xe0 call hs u) 1 2 5) := sq2 (by kernel_rfl) (x12b call hs u) (x12f call hs u)
theorem x12h : x1jk call hs u xmk xbf eNil = (j2 (xii call hs u) 0 1) := (sqN 2 (by kernel_rfl) (x12g call hs u)).trans (by kernel_rfl)
theorem xu5 : FL x6x xck := le2 (fn := Try.f55) (by kernel_rfl) (by kernel_rfl) (by kernel_rfl) (by kernel_rfl) (fun call hs t0 t1 m => (congrFun (x12h call hs m.next) _).trans (by kernel_rfl)) (fun _ _ _ _ _ h => by unfold xck at h; split at h <;> first | exact ⟨_, _, rfl⟩ | cases h)
noncomputable abbrev xmo : Fs → O2 := x1eb Try.prog [.tmp 2, .tmp 3]
noncomputable abbrev x1ts := XK call { f := x6y, u := u, nt := 20, hs := hs } xmo
noncomputable def x12i := x1ec x6y
theorem x12j : x1ts call hs u x12i xmo eNil = (j1 (xij call hs u) 0) := by kernel_rfl
theorem xu6 : FL x6y xcl := le1 (fn := Try.f58) (by kernel_rfl) (by kernel_rfl) (by kernel_rfl) (by kernel_rfl) (fun call hs t0 m => (congrFun (x12j call hs m.next) _).trans (by kernel_rfl)) (fun _ _ _ _ _ h => by unfold xcl at h; split at h <;> first | exact ⟨_, rfl⟩ | cases h)
noncomputable abbrev xmp : Fs → O2 := x1eb Try.prog [.cell 2 x63]
noncomputable abbrev x1tt := XK call { f := x4v, u := u, nt := 9, hs := hs } xmp
noncomputable def x12k := x1ec x4v
theorem x12l : x1tt call hs u x12k xmp eNil = (j1 (xik call hs u) 0) := by kernel_rfl
theorem xu7 : FL x4v xcm := le1 (fn := Try.f60) (by kernel_rfl) (by kernel_rfl) (by kernel_rfl) (by kernel_rfl) (fun call hs t0 m => (congrFun (x12l call hs m.next) _).trans (by kernel_rfl)) (fun _ _ _ _ _ h => by unfold xcm at h; split at h <;> first | exact ⟨_, rfl⟩ | cases h)
noncomputable abbrev xbg : Fs → O2 := x1eb Try.prog [.cell 2 xfb]
noncomputable abbrev x1mi := XK call { f := x4w, u := u, nt := 20, hs := hs } xbg
noncomputable def xmq := x1ec x4w
noncomputable def xg6 := nRs 2 xmq
noncomputable def x12m := nL xg6
noncomputable def x12n := nR xg6
theorem x12o : x1mi call hs u x12n xbg eNil = (j2 (x9r call hs u) 2 3) := by kernel_rfl
theorem x12p : x1mi call hs u x12m (j2 (x9r call hs u) 2 3) eNil = (j3 (xe1 call hs u) 0 2 3) := by kernel_rfl
theorem x12q : x1mi call hs u xg6 xbg eNil = (j3 (xe1 call hs u) 0 2 3) := sq2 (by kernel_rfl) (x12o call hs u) (x12p call hs u)
theorem x12r : x1mi call hs u xmq xbg eNil = (j1 (xil call hs u) 0) := (sqN 2 (by kernel_rfl) (x12q call hs u)).trans (by kernel_rfl)
theorem xu8 : FL x4w xcn := le1 (fn := Try.f61) (by kernel_rfl) (by kernel_rfl) (by kernel_rfl) (by kernel_rfl) (fun call hs t0 m => (congrFun (x12r call hs m.next) _).trans (by kernel_rfl)) (fun _ _ _ _ _ h => by unfold xcn at h; split at h <;> first | exact ⟨_, rfl⟩ | cases h)
noncomputable abbrev xmr : Fs → O2 := x1eb Try.prog [.tmp 2]
noncomputable abbrev x1tu := XK call { f := x33, u := u, nt := 7, hs := hs } xmr
noncomputable def x12s := x1ec x33
theorem x12t : x1tu call hs u x12s xmr eNil = (j1 (xim call hs u) 0) := by kernel_rfl
theorem xu9 : FL x33 xco := le1 (fn := Try.f62) (by kernel_rfl) (by kernel_rfl) (by kernel_rfl) (by kernel_rfl) (fun call hs t0 m => (congrFun (x12t call hs m.next) _).trans (by kernel_rfl)) (fun _ _ _ _ _ h => by unfold xco at h; split at h <;> first | exact ⟨_, rfl⟩ | cases h)
noncomputable abbrev xms : Fs → O2 := x1eb Try.prog [.cell 2 xjk, .tmp 3]
noncomputable abbrev x1tv := XK call { f := x34, u := u, nt := 14, hs := hs } xms
noncomputable def x12u := x1ec x34
theorem x12v : x1tv call hs u x12u xms eNil = (j1 (xin call hs u) 0) := by kernel_rfl
theorem xua : FL x34 xcp := le1 (fn := Try.f63) (by kernel_rfl) (by kernel_rfl) (by kernel_rfl) (by kernel_rfl) (fun call hs t0 m => (congrFun (x12v call hs m.next) _).trans (by kernel_rfl)) (fun _ _ _ _ _ h => by unfold xcp at h; split at h <;> first | exact ⟨_, rfl⟩ | cases h)
noncomputable abbrev x64 : Fs → O2 := x1eb Try.prog [.tmp 2]
noncomputable abbrev x1fz := XK call { f := x1c, u := u, nt := 64, hs := hs } x64
noncomputable def xmt := x1ec x1c
noncomputable def xg7 := nRs 2 xmt
noncomputable def xmu := nL xg7
noncomputable def xmv := nR xg7
noncomputable def xg8 := nRs 2 xmv
noncomputable def xmw := nL xg8
noncomputable def x12w := nR xg8
noncomputable def xmx := nR xmw
noncomputable def xmy := nR xmx
noncomputable def xmz := nR xmy
noncomputable def xg9 := nRs 2 xmz
noncomputable def xn0 := nL xg9
noncomputable def x12x := nR xg9
noncomputable def xn1 := nR xn0
noncomputable def xga := nR xn1
noncomputable def x12y := nL xga
noncomputable def x12z := nR xga
noncomputable def xn2 := nR xmu
noncomputable def x130 := nR xn2
theorem x131 : x1fz call hs u x12w x64 eNil = (j1 (xo call hs u) 3) := by kernel_rfl
theorem x132 (rec0 : AV → AV → AV → AV → AV → Mem → Nat → O2) : x1fz call hs u x12x (j5 rec0 3 6 26 27 28) (setE 2 (j1 (xo call hs u) 3) eNil) = (j5 (x1h call hs u rec0) 3 6 26 27 28) := by kernel_rfl
theorem x133 (rec0 : AV → AV → AV → AV → AV → Mem → Nat → O2) : x1fz call hs u x12z (j5 (x1h call hs u rec0) 3 6 26 27 28) (setE 3 (j5 (x1h call hs u rec0) 3 6 26 27 28) (setE 2 (j1 (xo call hs u) 3) eNil)) = (j7 (x3o call hs u rec0) 3 6 7 8 26 27 28) := by kernel_rfl
theorem x134 (rec0 : AV → AV → AV → AV → AV → Mem → Nat → O2) : x1fz call hs u x12y (j7 (x3o call hs u rec0) 3 6 7 8 26 27 28) (setE 3 (j5 (x1h call hs u rec0) 3 6 26 27 28) (setE 2 (j1 (xo call hs u) 3) eNil)) = (j7 (x9s call hs u rec0) 3 6 7 8 26 27 28) := by kernel_rfl
theorem x135 (rec0 : AV → AV → AV → AV → AV → Mem → Nat → O2) : x1fz call hs u xga (j5 (x1h call hs u rec0) 3 6 26 27 28) (setE 3 (j5 (x1h call hs u rec0) 3 6 26 27 28) (setE 2 (j1 (xo call hs u) 3) eNil)) = (j7 (x9s call hs u rec0) 3 6 7 8 26 27 28) := sq2 (by kernel_rfl) (x133 call hs u rec0) (x134 call hs u rec0)
theorem x136 (rec0 : AV → AV → AV → AV → AV → Mem → Nat → O2) : x1fz call hs u xn1 (j5 (x1h call hs u rec0) 3 6 26 27 28) (setE 3 (j5 (x1h call hs u rec0) 3 6 26 27 28) (setE 2 (j1 (xo call hs u) 3) eNil)) = (j5 (x81 call hs u rec0) 3 6 26 27 28) := (sqN 1 (by kernel_rfl) (x135 call hs u rec0)).trans (by kernel_rfl)
theorem x137 (rec0 : AV → AV → AV → AV → AV → Mem → Nat → O2) : x1fz call hs u xn0 (j5 (x1h call hs u rec0) 3 6 26 27 28) (setE 2 (j1 (xo call hs u) 3) eNil) = (j5 (x81 call hs u rec0) 3 6 26 27 28) := bk (by kernel_rfl) (x136 call hs u rec0)
theorem x138 (rec0 : AV → AV → AV → AV → AV → Mem → Nat → O2) : x1fz call hs u xg9 (j5 rec0 3 6 26 27 28) (setE 2 (j1 (xo call hs u) 3) eNil) = (j5 (x81 call hs u rec0) 3 6 26 27 28) := sq2 (by kernel_rfl) (x132 call hs u rec0) (x137 call hs u rec0)
theorem x139 (rec0 : AV → AV → AV → AV → AV → Mem → Nat → O2) : x1fz call hs u xmz (j5 rec0 3 6 26 27 28) (setE 2 (j1 (xo call hs u) 3) eNil) = (j5 (x9t call hs u rec0) 3 6 26 27 28) := (sqN 2 (by kernel_rfl) (x138 call hs u rec0)).trans (by kernel_rfl)
theorem x13a : x1fz call hs u xmy (j1 (xo call hs u) 3) (setE 2 (j1 (xo call hs u) 3) eNil) = (j5 (xw call hs u NN) 3 6 26 27 28) := lp (Ln := fun n => j5 (xw call hs u n) 3 6 26 27 28) (by kernel_rfl) rfl fun n => (x139 call hs u (xw call hs u n)).trans (by kernel_rfl)
theorem x13b : x1fz call hs u xmx (j1 (xo call hs u) 3) eNil = (j5 (xw call hs u NN) 3 6 26 27 28) := bk (by kernel_rfl) (x13a call hs u)
theorem x13c : x1fz call hs u xmw (j1 (xo call hs u) 3) eNil = (j3 (x9u call hs u) 3 5 6) := (sqN 1 (by kernel_rfl) (x13b call hs u)).trans (by kernel_rfl)
theorem x13d : x1fz call hs u xg8 x64 eNil = (j3 (x9u call hs u) 3 5 6) := sq2 (by kernel_rfl) (x131 call hs u) (x13c call hs u)
theorem x13e : x1fz call hs u xmv x64 eNil = (j2 (x2l call hs u) 1 3) := (sqN 2 (by kernel_rfl) (x13d call hs u)).trans (by kernel_rfl)
theorem x13f (rec1 : AV → AV → Mem → Nat → O2) : x1fz call hs u x130 (j2 rec1 1 3) (setE 0 (j2 (x2l call hs u) 1 3) eNil) = (j2 (xe2 call hs u rec1) 1 3) := by kernel_rfl
theorem x13g : x1fz call hs u xn2 (j2 (x2l call hs u) 1 3) (setE 0 (j2 (x2l call hs u) 1 3) eNil) = (j2 (x10 call hs u NN) 1 3) := lp (Ln := fun n => j2 (x10 call hs u n) 1 3) (by kernel_rfl) rfl fun n => (x13f call hs u (x10 call hs u n)).trans (by kernel_rfl)
theorem x13h : x1fz call hs u xmu (j2 (x2l call hs u) 1 3) eNil = (j2 (x10 call hs u NN) 1 3) := bk (by kernel_rfl) (x13g call hs u)
theorem x13i : x1fz call hs u xg7 x64 eNil = (j2 (x10 call hs u NN) 1 3) := sq2 (by kernel_rfl) (x13e call hs u) (x13h call hs u)
theorem x13j : x1fz call hs u xmt x64 eNil = (j1 (x9v call hs u) 0) := (sqN 2 (by kernel_rfl) (x13i call hs u)).trans (by kernel_rfl)
theorem xub : FL x1c x8z := le1 (fn := Try.f64) (by kernel_rfl) (by kernel_rfl) (by kernel_rfl) (by kernel_rfl) (fun call hs t0 m => (congrFun (x13j call hs m.next) _).trans (by kernel_rfl)) (fun _ _ _ _ _ h => by unfold x8z at h; split at h <;> first | exact ⟨_, rfl⟩ | cases h)
noncomputable abbrev xbh : Fs → O2 := x1eb Try.prog [.tmp 4]
noncomputable abbrev x1jl := XK call { f := x1r, u := u, nt := 27, hs := hs } xbh
noncomputable def xn3 := x1ec x1r
noncomputable def xgb := nRs 2 xn3
noncomputable def xn4 := nL xgb
noncomputable def x13k := nR xgb
noncomputable def xn5 := nR xn4
noncomputable def xn6 := nR xn5
noncomputable def x13l := nR xn6
theorem x13m : x1jl call hs u x13k xbh eNil = (j1 (x3q call hs u) 5) := by kernel_rfl
theorem x13n (rec0 : AV → AV → AV → AV → AV → Mem → Nat → O2) : x1jl call hs u x13l (j5 rec0 1 5 10 11 12) (setE 0 (j1 (x3q call hs u) 5) eNil) = (j5 (x9w call hs u rec0) 1 5 10 11 12) := by kernel_rfl
theorem x13o : x1jl call hs u xn6 (j1 (x3q call hs u) 5) (setE 0 (j1 (x3q call hs u) 5) eNil) = (j5 (x2m call hs u NN) 1 5 10 11 12) := lp (Ln := fun n => j5 (x2m call hs u n) 1 5 10 11 12) (by kernel_rfl) rfl fun n => (x13n call hs u (x2m call hs u n)).trans (by kernel_rfl)
theorem x13p : x1jl call hs u xn5 (j1 (x3q call hs u) 5) eNil = (j5 (x2m call hs u NN) 1 5 10 11 12) := bk (by kernel_rfl) (x13o call hs u)
theorem x13q : x1jl call hs u xn4 (j1 (x3q call hs u) 5) eNil = (j3 (x9x call hs u) 1 2 5) := (sqN 1 (by kernel_rfl) (x13p call hs u)).trans (by kernel_rfl)
theorem x13r : x1jl call hs u xgb xbh eNil = (j3 (x9x call hs u) 1 2 5) := sq2 (by kernel_rfl) (x13m call hs u) (x13q call hs u)
theorem x13s : x1jl call hs u xn3 xbh eNil = (j2 (xe3 call hs u) 0 1) := (sqN 2 (by kernel_rfl) (x13r call hs u)).trans (by kernel_rfl)
theorem xuc : FL x1r x6z := le2 (fn := Try.f65) (by kernel_rfl) (by kernel_rfl) (by kernel_rfl) (by kernel_rfl) (fun call hs t0 t1 m => (congrFun (x13s call hs m.next) _).trans (by kernel_rfl)) (fun _ _ _ _ _ h => by unfold x6z at h; split at h <;> first | exact ⟨_, _, rfl⟩ | cases h)
noncomputable abbrev xbi : Fs → O2 := x1eb Try.prog [.tmp 2, .tmp 3]
noncomputable abbrev x1jm := XK call { f := x70, u := u, nt := 60, hs := hs } xbi
noncomputable def xn7 := x1ec x70
noncomputable def xgc := nRs 3 xn7
noncomputable def xn8 := nL xgc
noncomputable def x13t := nR xgc
noncomputable def xn9 := nR xn8
noncomputable def xna := nR xn9
noncomputable def x13u := nR xna
theorem x13v : x1jm call hs u x13t xbi eNil = (j0 (x4h call hs u)) := by kernel_rfl
theorem x13w (rec0 : AV → AV → Mem → Nat → O2) : x1jm call hs u x13u (j2 rec0 1 4) (setE 0 (j0 (x4h call hs u)) eNil) = (j2 (xio call hs u rec0) 1 4) := by kernel_rfl
theorem x13x : x1jm call hs u xna (j0 (x4h call hs u)) (setE 0 (j0 (x4h call hs u)) eNil) = (j2 (x5h call hs u NN) 1 4) := lp (Ln := fun n => j2 (x5h call hs u n) 1 4) (by kernel_rfl) rfl fun n => (x13w call hs u (x5h call hs u n)).trans (by kernel_rfl)
theorem x13y : x1jm call hs u xn9 (j0 (x4h call hs u)) eNil = (j2 (x5h call hs u NN) 1 4) := bk (by kernel_rfl) (x13x call hs u)
theorem x13z : x1jm call hs u xn8 (j0 (x4h call hs u)) eNil = (j1 (xe4 call hs u) 1) := (sqN 1 (by kernel_rfl) (x13y call hs u)).trans (by kernel_rfl)
theorem x140 : x1jm call hs u xgc xbi eNil = (j1 (xe4 call hs u) 1) := sq2 (by kernel_rfl) (x13v call hs u) (x13z call hs u)
theorem x141 : x1jm call hs u xn7 xbi eNil = (j1 (xip call hs u) 0) := (sqN 3 (by kernel_rfl) (x140 call hs u)).trans (by kernel_rfl)
theorem xud : FL x70 xcq := le1 (fn := Try.f66) (by kernel_rfl) (by kernel_rfl) (by kernel_rfl) (by kernel_rfl) (fun call hs t0 m => (congrFun (x141 call hs m.next) _).trans (by kernel_rfl)) (fun _ _ _ _ _ h => by unfold xcq at h; split at h <;> first | exact ⟨_, rfl⟩ | cases h)
noncomputable abbrev xbj : Fs → O2 := x1eb Try.prog [.cell 2 x63]
noncomputable abbrev x1ke := XK call { f := x1d, u := u, nt := 71, hs := hs } xbj
noncomputable abbrev x1rc := XK (R := Mem) call { f := x1d, u := u, nt := 71, hs := hs } fNil
noncomputable def xnb := x1ec x1d
noncomputable def xgd := nRs 4 xnb
noncomputable def xnc := nL xgd
noncomputable def x142 := nR xgd
noncomputable def xnd := nR xnc
noncomputable def xbk := nR xnd
noncomputable def x143 := nL xbk
noncomputable def x144 := nR xbk
theorem x145 : x1ke call hs u x142 xbj eNil = (j2 (x4i call hs u) 2 4) := by kernel_rfl
theorem x146 : x1rc call hs u x144 (fun s => some s.m) eNil = (j5 (x4j call hs u) 3 4 5 6 7) := by kernel_rfl
theorem x147 : x1rc call hs u x143 (j5 (x4j call hs u) 3 4 5 6 7) eNil = (j5 (x5i call hs u) 3 4 5 27 28) := by kernel_rfl
theorem x148 : x1ke call hs u xbk (j2 (x4i call hs u) 2 4) (setE 0 (j2 (x4i call hs u) 2 4) eNil) = (j5 (x9y call hs u) 2 3 4 5 26) := (rg (C := xbk) (c := { f := x1d, u := u, nt := 71, hs := hs }) (f := (.tmp 26)) (ps := #[27, 28]) (by kernel_rfl) (fun u => x146 call hs u) (fun u => x147 call hs u)).trans (by kernel_rfl)
theorem x149 : x1ke call hs u xnd (j2 (x4i call hs u) 2 4) eNil = (j5 (x9y call hs u) 2 3 4 5 26) := bk (by kernel_rfl) (x148 call hs u)
theorem x14a : x1ke call hs u xnc (j2 (x4i call hs u) 2 4) eNil = (j4 (x9z call hs u) 2 3 4 5) := (sqN 1 (by kernel_rfl) (x149 call hs u)).trans (by kernel_rfl)
theorem x14b : x1ke call hs u xgd xbj eNil = (j4 (x9z call hs u) 2 3 4 5) := sq2 (by kernel_rfl) (x145 call hs u) (x14a call hs u)
theorem x14c : x1ke call hs u xnb xbj eNil = (j1 (xe5 call hs u) 0) := (sqN 4 (by kernel_rfl) (x14b call hs u)).trans (by kernel_rfl)
theorem xue : FL x1d x71 := le1 (fn := Try.f69) (by kernel_rfl) (by kernel_rfl) (by kernel_rfl) (by kernel_rfl) (fun call hs t0 m => (congrFun (x14c call hs m.next) _).trans (by kernel_rfl)) (fun _ _ _ _ _ h => by unfold x71 at h; split at h <;> first | exact ⟨_, rfl⟩ | cases h)
noncomputable abbrev xne : Fs → O2 := x1eb Try.prog [.tmp 6]
noncomputable abbrev x1tw := XK call { f := x35, u := u, nt := 20, hs := hs } xne
noncomputable def x14d := x1ec x35
theorem x14e : x1tw call hs u x14d xne eNil = (j3 (xe6 call hs u) 0 1 2) := by kernel_rfl
theorem xuf : FL x35 x72 := le3 (fn := Try.f70) (by kernel_rfl) (by kernel_rfl) (by kernel_rfl) (by kernel_rfl) (fun call hs t0 t1 t2 m => (congrFun (x14e call hs m.next) _).trans (by kernel_rfl)) (fun _ _ _ _ _ h => by unfold x72 at h; split at h <;> first | exact ⟨_, _, _, rfl⟩ | cases h)
noncomputable abbrev xbl : Fs → O2 := x1eb Try.prog [.tmp 2]
noncomputable abbrev x1jn := XK call { f := x36, u := u, nt := 23, hs := hs } xbl
noncomputable def xnf := x1ec x36
noncomputable def xge := nR xnf
noncomputable def xng := nL xge
noncomputable def x14f := nR xge
noncomputable def xnh := nR xng
noncomputable def xni := nR xnh
noncomputable def x14g := nR xni
theorem x14h : x1jn call hs u x14f xbl eNil = (j0 (x3r call hs u)) := by kernel_rfl
theorem x14i (rec0 : AV → AV → Mem → Nat → O2) : x1jn call hs u x14g (j2 rec0 0 3) (setE 0 (j0 (x3r call hs u)) eNil) = (j2 (xa0 call hs u rec0) 0 3) := by kernel_rfl
theorem x14j : x1jn call hs u xni (j0 (x3r call hs u)) (setE 0 (j0 (x3r call hs u)) eNil) = (j2 (x2n call hs u NN) 0 3) := lp (Ln := fun n => j2 (x2n call hs u n) 0 3) (by kernel_rfl) rfl fun n => (x14i call hs u (x2n call hs u n)).trans (by kernel_rfl)
theorem x14k : x1jn call hs u xnh (j0 (x3r call hs u)) eNil = (j2 (x2n call hs u NN) 0 3) := bk (by kernel_rfl) (x14j call hs u)
theorem x14l : x1jn call hs u xng (j0 (x3r call hs u)) eNil = (j1 (xa1 call hs u) 0) := (sqN 1 (by kernel_rfl) (x14k call hs u)).trans (by kernel_rfl)
theorem x14m : x1jn call hs u xge xbl eNil = (j1 (xa1 call hs u) 0) := sq2 (by kernel_rfl) (x14h call hs u) (x14l call hs u)
theorem x14n : x1jn call hs u xnf xbl eNil = (j1 (xe7 call hs u) 0) := (sqN 1 (by kernel_rfl) (x14m call hs u)).trans (by kernel_rfl)
theorem xug : FL x36 x73 := le1 (fn := Try.f71) (by kernel_rfl) (by kernel_rfl) (by kernel_rfl) (by kernel_rfl) (fun call hs t0 m => (congrFun (x14n call hs m.next) _).trans (by kernel_rfl)) (fun _ _ _ _ _ h => by unfold x73 at h; split at h <;> first | exact ⟨_, rfl⟩ | cases h)
noncomputable abbrev xnj : Fs → O2 := x1eb Try.prog [.tmp 6]
noncomputable abbrev x1tx := XK call { f := x37, u := u, nt := 22, hs := hs } xnj
noncomputable def x14o := x1ec x37
theorem x14p : x1tx call hs u x14o xnj eNil = (j3 (xe8 call hs u) 0 1 2) := by kernel_rfl
theorem xuh : FL x37 x74 := le3 (fn := Try.f72) (by kernel_rfl) (by kernel_rfl) (by kernel_rfl) (by kernel_rfl) (fun call hs t0 t1 t2 m => (congrFun (x14p call hs m.next) _).trans (by kernel_rfl)) (fun _ _ _ _ _ h => by unfold x74 at h; split at h <;> first | exact ⟨_, _, _, rfl⟩ | cases h)
noncomputable abbrev xnk : Fs → O2 := x1eb Try.prog [.tmp 4]
noncomputable abbrev x1ty := XK call { f := x38, u := u, nt := 9, hs := hs } xnk
noncomputable def x14q := x1ec x38
theorem x14r : x1ty call hs u x14q xnk eNil = (j2 (xe9 call hs u) 0 1) := by kernel_rfl
theorem xui : FL x38 x75 := le2 (fn := Try.f73) (by kernel_rfl) (by kernel_rfl) (by kernel_rfl) (by kernel_rfl) (fun call hs t0 t1 m => (congrFun (x14r call hs m.next) _).trans (by kernel_rfl)) (fun _ _ _ _ _ h => by unfold x75 at h; split at h <;> first | exact ⟨_, _, rfl⟩ | cases h)
noncomputable abbrev xnl : Fs → O2 := x1eb Try.prog [.tmp 2]
noncomputable abbrev x1tz := XK call { f := x28, u := u, nt := 7, hs := hs } xnl
noncomputable def x14s := x1ec x28
theorem x14t : x1tz call hs u x14s xnl eNil = (j1 (xea call hs u) 0) := by kernel_rfl
theorem xuj : FL x28 x76 := le1 (fn := Try.f74) (by kernel_rfl) (by kernel_rfl) (by kernel_rfl) (by kernel_rfl) (fun call hs t0 m => (congrFun (x14t call hs m.next) _).trans (by kernel_rfl)) (fun _ _ _ _ _ h => by unfold x76 at h; split at h <;> first | exact ⟨_, rfl⟩ | cases h)
noncomputable abbrev x65 : Fs → O2 := x1eb Try.prog [.tmp 2]
noncomputable abbrev x1ge := XK call { f := x29, u := u, nt := 36, hs := hs } x65
noncomputable def xnm := x1ec x29
noncomputable def xgf := nRs 2 xnm
noncomputable def xnn := nL xgf
noncomputable def xno := nR xgf
noncomputable def xgg := nR xno
noncomputable def xnp := nL xgg
noncomputable def x14u := nR xgg
noncomputable def xnq := nR xnp
noncomputable def xnr := nR xnq
noncomputable def x14v := nR xnr
noncomputable def xns := nR xnn
noncomputable def xnt := nR xns
noncomputable def xnu := nR xnt
noncomputable def xgh := nRs 2 xnu
noncomputable def x14w := nL xgh
noncomputable def x14x := nR xgh
theorem x14y : x1ge call hs u x14u x65 eNil = (j1 (x2o call hs u) 6) := by kernel_rfl
theorem x14z (rec0 : AV → AV → AV → AV → Mem → Nat → O2) : x1ge call hs u x14v (j4 rec0 6 25 26 27) (setE 2 (j1 (x2o call hs u) 6) eNil) = (j4 (xa2 call hs u rec0) 6 25 26 27) := by kernel_rfl
theorem x150 : x1ge call hs u xnr (j1 (x2o call hs u) 6) (setE 2 (j1 (x2o call hs u) 6) eNil) = (j4 (x3s call hs u NN) 6 25 26 27) := lp (Ln := fun n => j4 (x3s call hs u n) 6 25 26 27) (by kernel_rfl) rfl fun n => (x14z call hs u (x3s call hs u n)).trans (by kernel_rfl)
theorem x151 : x1ge call hs u xnq (j1 (x2o call hs u) 6) eNil = (j4 (x3s call hs u NN) 6 25 26 27) := bk (by kernel_rfl) (x150 call hs u)
theorem x152 : x1ge call hs u xnp (j1 (x2o call hs u) 6) eNil = (j2 (x82 call hs u) 0 6) := (sqN 1 (by kernel_rfl) (x151 call hs u)).trans (by kernel_rfl)
theorem x153 : x1ge call hs u xgg x65 eNil = (j2 (x82 call hs u) 0 6) := sq2 (by kernel_rfl) (x14y call hs u) (x152 call hs u)
theorem x154 : x1ge call hs u xno x65 eNil = (j2 (x11 call hs u) 0 3) := (sqN 1 (by kernel_rfl) (x153 call hs u)).trans (by kernel_rfl)
theorem x155 (rec1 : AV → AV → AV → AV → AV → Mem → Nat → O2) : x1ge call hs u x14x (j5 rec1 0 3 9 10 11) (setE 0 (j2 (x11 call hs u) 0 3) eNil) = (j5 (xa4 call hs u rec1) 0 3 9 10 11) := by kernel_rfl
theorem x156 (rec1 : AV → AV → AV → AV → AV → Mem → Nat → O2) : x1ge call hs u x14w (j5 (xa4 call hs u rec1) 0 3 9 10 11) (setE 0 (j2 (x11 call hs u) 0 3) eNil) = (j5 (xa5 call hs u rec1) 0 3 9 10 11) := by kernel_rfl
theorem x157 (rec1 : AV → AV → AV → AV → AV → Mem → Nat → O2) : x1ge call hs u xgh (j5 rec1 0 3 9 10 11) (setE 0 (j2 (x11 call hs u) 0 3) eNil) = (j5 (xa5 call hs u rec1) 0 3 9 10 11) := sq2 (by kernel_rfl) (x155 call hs u rec1) (x156 call hs u rec1)
theorem x158 (rec1 : AV → AV → AV → AV → AV → Mem → Nat → O2) : x1ge call hs u xnu (j5 rec1 0 3 9 10 11) (setE 0 (j2 (x11 call hs u) 0 3) eNil) = (j5 (xeb call hs u rec1) 0 3 9 10 11) := (sqN 2 (by kernel_rfl) (x157 call hs u rec1)).trans (by kernel_rfl)
theorem x159 : x1ge call hs u xnt (j2 (x11 call hs u) 0 3) (setE 0 (j2 (x11 call hs u) 0 3) eNil) = (j5 (x4l call hs u NN) 0 3 9 10 11) := lp (Ln := fun n => j5 (x4l call hs u n) 0 3 9 10 11) (by kernel_rfl) rfl fun n => (x158 call hs u (x4l call hs u n)).trans (by kernel_rfl)
theorem x15a : x1ge call hs u xns (j2 (x11 call hs u) 0 3) eNil = (j5 (x4l call hs u NN) 0 3 9 10 11) := bk (by kernel_rfl) (x159 call hs u)
theorem x15b : x1ge call hs u xnn (j2 (x11 call hs u) 0 3) eNil = (j2 (xa6 call hs u) 0 3) := (sqN 1 (by kernel_rfl) (x15a call hs u)).trans (by kernel_rfl)
theorem x15c : x1ge call hs u xgf x65 eNil = (j2 (xa6 call hs u) 0 3) := sq2 (by kernel_rfl) (x154 call hs u) (x15b call hs u)
theorem x15d : x1ge call hs u xnm x65 eNil = (j1 (xec call hs u) 0) := (sqN 2 (by kernel_rfl) (x15c call hs u)).trans (by kernel_rfl)
theorem xuk : FL x29 x77 := le1 (fn := Try.f75) (by kernel_rfl) (by kernel_rfl) (by kernel_rfl) (by kernel_rfl) (fun call hs t0 m => (congrFun (x15d call hs m.next) _).trans (by kernel_rfl)) (fun _ _ _ _ _ h => by unfold x77 at h; split at h <;> first | exact ⟨_, rfl⟩ | cases h)
noncomputable abbrev xnv : Fs → O2 := x1eb Try.prog [.tmp 2]
noncomputable abbrev x1u0 := XK call { f := x39, u := u, nt := 5, hs := hs } xnv
noncomputable def x15e := x1ec x39
theorem x15f : x1u0 call hs u x15e xnv eNil = (j1 (xed call hs u) 0) := by kernel_rfl
theorem xul : FL x39 x78 := le1 (fn := Try.f76) (by kernel_rfl) (by kernel_rfl) (by kernel_rfl) (by kernel_rfl) (fun call hs t0 m => (congrFun (x15f call hs m.next) _).trans (by kernel_rfl)) (fun _ _ _ _ _ h => by unfold x78 at h; split at h <;> first | exact ⟨_, rfl⟩ | cases h)
noncomputable abbrev xnw : Fs → O2 := x1eb Try.prog [.cell 8 x9e, .tmp 9]
noncomputable abbrev x1u1 := XK call { f := x4x, u := u, nt := 42, hs := hs } xnw
noncomputable def x15g := x1ec x4x
theorem x15h : x1u1 call hs u x15g xnw eNil = (j4 (xiq call hs u) 0 1 2 3) := by kernel_rfl
theorem xum : FL x4x xcr := le4 (fn := Try.f77) (by kernel_rfl) (by kernel_rfl) (by kernel_rfl) (by kernel_rfl) (fun call hs t0 t1 t2 t3 m => (congrFun (x15h call hs m.next) _).trans (by kernel_rfl)) (fun _ _ _ _ _ h => by unfold xcr at h; split at h <;> first | exact ⟨_, _, _, _, rfl⟩ | cases h)
noncomputable abbrev xnx : Fs → O2 := x1eb Try.prog [.tmp 6]
noncomputable abbrev x1u2 := XK call { f := xb, u := u, nt := 15, hs := hs } xnx
noncomputable def x15i := x1ec xb
theorem x15j : x1u2 call hs u x15i xnx eNil = (j3 (xee call hs u) 0 1 2) := by kernel_rfl
theorem xsx : FL xb x68 := le3 (fn := Try.f78) (by kernel_rfl) (by kernel_rfl) (by kernel_rfl) (by kernel_rfl) (fun call hs t0 t1 t2 m => (congrFun (x15j call hs m.next) _).trans (by kernel_rfl)) (fun _ _ _ _ _ h => by unfold x68 at h; split at h <;> first | exact ⟨_, _, _, rfl⟩ | cases h)
noncomputable abbrev xbm : Fs → O2 := x1eb Try.prog [.tmp 2]
noncomputable abbrev x1i1 := XK call { f := x3a, u := u, nt := 53, hs := hs } xbm
noncomputable def xny := x1ec x3a
noncomputable def xgi := nRs 2 xny
noncomputable def xnz := nL xgi
noncomputable def x15k := nR xgi
noncomputable def xo0 := nR xnz
noncomputable def xo1 := nR xo0
noncomputable def xo2 := nR xo1
noncomputable def xgj := nRs 2 xo2
noncomputable def x15l := nL xgj
noncomputable def x15m := nR xgj
theorem x15n : x1i1 call hs u x15k xbm eNil = (j2 (x12 call hs u) 1 3) := by kernel_rfl
theorem x15o (rec0 : AV → AV → AV → AV → AV → Mem → Nat → O2) : x1i1 call hs u x15m (j5 rec0 1 3 12 13 14) (setE 0 (j2 (x12 call hs u) 1 3) eNil) = (j5 (x5j call hs u rec0) 1 3 12 13 14) := by kernel_rfl
theorem x15p (rec0 : AV → AV → AV → AV → AV → Mem → Nat → O2) : x1i1 call hs u x15l (j5 (x5j call hs u rec0) 1 3 12 13 14) (setE 0 (j2 (x12 call hs u) 1 3) eNil) = (j5 (x83 call hs u rec0) 1 3 12 13 14) := by kernel_rfl
theorem x15q (rec0 : AV → AV → AV → AV → AV → Mem → Nat → O2) : x1i1 call hs u xgj (j5 rec0 1 3 12 13 14) (setE 0 (j2 (x12 call hs u) 1 3) eNil) = (j5 (x83 call hs u rec0) 1 3 12 13 14) := sq2 (by kernel_rfl) (x15o call hs u rec0) (x15p call hs u rec0)
theorem x15r (rec0 : AV → AV → AV → AV → AV → Mem → Nat → O2) : x1i1 call hs u xo2 (j5 rec0 1 3 12 13 14) (setE 0 (j2 (x12 call hs u) 1 3) eNil) = (j5 (x84 call hs u rec0) 1 3 12 13 14) := (sqN 2 (by kernel_rfl) (x15q call hs u rec0)).trans (by kernel_rfl)
theorem x15s : x1i1 call hs u xo1 (j2 (x12 call hs u) 1 3) (setE 0 (j2 (x12 call hs u) 1 3) eNil) = (j5 (x1i call hs u NN) 1 3 12 13 14) := lp (Ln := fun n => j5 (x1i call hs u n) 1 3 12 13 14) (by kernel_rfl) rfl fun n => (x15r call hs u (x1i call hs u n)).trans (by kernel_rfl)
theorem x15t : x1i1 call hs u xo0 (j2 (x12 call hs u) 1 3) eNil = (j5 (x1i call hs u NN) 1 3 12 13 14) := bk (by kernel_rfl) (x15s call hs u)
theorem x15u : x1i1 call hs u xnz (j2 (x12 call hs u) 1 3) eNil = (j2 (xa7 call hs u) 1 3) := (sqN 1 (by kernel_rfl) (x15t call hs u)).trans (by kernel_rfl)
theorem x15v : x1i1 call hs u xgi xbm eNil = (j2 (xa7 call hs u) 1 3) := sq2 (by kernel_rfl) (x15n call hs u) (x15u call hs u)
theorem x15w : x1i1 call hs u xny xbm eNil = (j1 (xa8 call hs u) 0) := (sqN 2 (by kernel_rfl) (x15v call hs u)).trans (by kernel_rfl)
theorem xun : FL x3a x90 := le1 (fn := Try.f79) (by kernel_rfl) (by kernel_rfl) (by kernel_rfl) (by kernel_rfl) (fun call hs t0 m => (congrFun (x15w call hs m.next) _).trans (by kernel_rfl)) (fun _ _ _ _ _ h => by unfold x90 at h; split at h <;> first | exact ⟨_, rfl⟩ | cases h)
noncomputable abbrev xbn : Fs → O2 := x1eb Try.prog [.tmp 4]
noncomputable abbrev x1i2 := XK call { f := x44, u := u, nt := 47, hs := hs } xbn
noncomputable def xo3 := x1ec x44
noncomputable def xgk := nRs 2 xo3
noncomputable def xo4 := nL xgk
noncomputable def x15x := nR xgk
noncomputable def xo5 := nR xo4
noncomputable def xo6 := nR xo5
noncomputable def xo7 := nR xo6
noncomputable def xgl := nRs 2 xo7
noncomputable def x15y := nL xgl
noncomputable def x15z := nR xgl
theorem x160 : x1i2 call hs u x15x xbn eNil = (j1 (x1u call hs u) 5) := by kernel_rfl
theorem x161 (rec0 : AV → AV → AV → AV → AV → Mem → Nat → O2) : x1i2 call hs u x15z (j5 rec0 0 1 5 12 13) (setE 0 (j1 (x1u call hs u) 5) eNil) = (j5 (xa9 call hs u rec0) 0 1 5 12 13) := by kernel_rfl
theorem x162 (rec0 : AV → AV → AV → AV → AV → Mem → Nat → O2) : x1i2 call hs u x15y (j5 (xa9 call hs u rec0) 0 1 5 12 13) (setE 0 (j1 (x1u call hs u) 5) eNil) = (j5 (xeg call hs u rec0) 0 1 5 12 13) := by kernel_rfl
theorem x163 (rec0 : AV → AV → AV → AV → AV → Mem → Nat → O2) : x1i2 call hs u xgl (j5 rec0 0 1 5 12 13) (setE 0 (j1 (x1u call hs u) 5) eNil) = (j5 (xeg call hs u rec0) 0 1 5 12 13) := sq2 (by kernel_rfl) (x161 call hs u rec0) (x162 call hs u rec0)
theorem x164 (rec0 : AV → AV → AV → AV → AV → Mem → Nat → O2) : x1i2 call hs u xo7 (j5 rec0 0 1 5 12 13) (setE 0 (j1 (x1u call hs u) 5) eNil) = (j5 (xir call hs u rec0) 0 1 5 12 13) := (sqN 2 (by kernel_rfl) (x163 call hs u rec0)).trans (by kernel_rfl)
theorem x165 : x1i2 call hs u xo6 (j1 (x1u call hs u) 5) (setE 0 (j1 (x1u call hs u) 5) eNil) = (j5 (x5k call hs u NN) 0 1 5 12 13) := lp (Ln := fun n => j5 (x5k call hs u n) 0 1 5 12 13) (by kernel_rfl) rfl fun n => (x164 call hs u (x5k call hs u n)).trans (by kernel_rfl)
theorem x166 : x1i2 call hs u xo5 (j1 (x1u call hs u) 5) eNil = (j5 (x5k call hs u NN) 0 1 5 12 13) := bk (by kernel_rfl) (x165 call hs u)
theorem x167 : x1i2 call hs u xo4 (j1 (x1u call hs u) 5) eNil = (j3 (xeh call hs u) 0 1 5) := (sqN 1 (by kernel_rfl) (x166 call hs u)).trans (by kernel_rfl)
theorem x168 : x1i2 call hs u xgk xbn eNil = (j3 (xeh call hs u) 0 1 5) := sq2 (by kernel_rfl) (x160 call hs u) (x167 call hs u)
theorem x169 : x1i2 call hs u xo3 xbn eNil = (j2 (xis call hs u) 0 1) := (sqN 2 (by kernel_rfl) (x168 call hs u)).trans (by kernel_rfl)
theorem xuo : FL x44 xcs := le2 (fn := Try.f80) (by kernel_rfl) (by kernel_rfl) (by kernel_rfl) (by kernel_rfl) (fun call hs t0 t1 m => (congrFun (x169 call hs m.next) _).trans (by kernel_rfl)) (fun _ _ _ _ _ h => by unfold xcs at h; split at h <;> first | exact ⟨_, _, rfl⟩ | cases h)
noncomputable abbrev xbo : Fs → O2 := x1eb Try.prog [.tmp 2]
noncomputable abbrev x1jo := XK call { f := x79, u := u, nt := 26, hs := hs } xbo
noncomputable def xo8 := x1ec x79
noncomputable def xgm := nRs 3 xo8
noncomputable def xo9 := nL xgm
noncomputable def x16a := nR xgm
noncomputable def xoa := nR xo9
noncomputable def xob := nR xoa
noncomputable def x16b := nR xob
theorem x16c : x1jo call hs u x16a xbo eNil = (j2 (x4m call hs u) 1 4) := by kernel_rfl
theorem x16d (rec0 : AV → AV → AV → AV → AV → Mem → Nat → O2) : x1jo call hs u x16b (j5 rec0 1 3 4 10 11) (setE 0 (j2 (x4m call hs u) 1 4) eNil) = (j5 (xit call hs u rec0) 1 3 4 10 11) := by kernel_rfl
theorem x16e : x1jo call hs u xob (j2 (x4m call hs u) 1 4) (setE 0 (j2 (x4m call hs u) 1 4) eNil) = (j5 (x5m call hs u NN) 1 3 4 10 11) := lp (Ln := fun n => j5 (x5m call hs u n) 1 3 4 10 11) (by kernel_rfl) rfl fun n => (x16d call hs u (x5m call hs u n)).trans (by kernel_rfl)
theorem x16f : x1jo call hs u xoa (j2 (x4m call hs u) 1 4) eNil = (j5 (x5m call hs u NN) 1 3 4 10 11) := bk (by kernel_rfl) (x16e call hs u)
theorem x16g : x1jo call hs u xo9 (j2 (x4m call hs u) 1 4) eNil = (j3 (xei call hs u) 1 3 4) := (sqN 1 (by kernel_rfl) (x16f call hs u)).trans (by kernel_rfl)
theorem x16h : x1jo call hs u xgm xbo eNil = (j3 (xei call hs u) 1 3 4) := sq2 (by kernel_rfl) (x16c call hs u) (x16g call hs u)
theorem x16i : x1jo call hs u xo8 xbo eNil = (j1 (xiu call hs u) 0) := (sqN 3 (by kernel_rfl) (x16h call hs u)).trans (by kernel_rfl)
theorem xup : FL x79 xct := le1 (fn := Try.f81) (by kernel_rfl) (by kernel_rfl) (by kernel_rfl) (by kernel_rfl) (fun call hs t0 m => (congrFun (x16i call hs m.next) _).trans (by kernel_rfl)) (fun _ _ _ _ _ h => by unfold xct at h; split at h <;> first | exact ⟨_, rfl⟩ | cases h)
noncomputable abbrev xoc : Fs → O2 := x1eb Try.prog [.tmp 4]
noncomputable abbrev x1u3 := XK call { f := x2a, u := u, nt := 9, hs := hs } xoc
noncomputable def x16j := x1ec x2a
theorem x16k : x1u3 call hs u x16j xoc eNil = (j2 (xej call hs u) 0 1) := by kernel_rfl
theorem xuq : FL x2a x7a := le2 (fn := Try.f84) (by kernel_rfl) (by kernel_rfl) (by kernel_rfl) (by kernel_rfl) (fun call hs t0 t1 m => (congrFun (x16k call hs m.next) _).trans (by kernel_rfl)) (fun _ _ _ _ _ h => by unfold x7a at h; split at h <;> first | exact ⟨_, _, rfl⟩ | cases h)
noncomputable abbrev xod : Fs → O2 := x1eb Try.prog [.tmp 2]
noncomputable abbrev x1u4 := XK call { f := x7b, u := u, nt := 6, hs := hs } xod
noncomputable def x16l := x1ec x7b
theorem x16m : x1u4 call hs u x16l xod eNil = (j1 (xiv call hs u) 0) := by kernel_rfl
theorem xur : FL x7b xcu := le1 (fn := Try.f85) (by kernel_rfl) (by kernel_rfl) (by kernel_rfl) (by kernel_rfl) (fun call hs t0 m => (congrFun (x16m call hs m.next) _).trans (by kernel_rfl)) (fun _ _ _ _ _ h => by unfold xcu at h; split at h <;> first | exact ⟨_, rfl⟩ | cases h)
noncomputable abbrev xoe : Fs → O2 := x1eb Try.prog [.tmp 2]
noncomputable abbrev x1u5 := XK call { f := x3b, u := u, nt := 8, hs := hs } xoe
noncomputable def x16n := x1ec x3b
theorem x16o : x1u5 call hs u x16n xoe eNil = (j1 (xaa call hs u) 0) := by kernel_rfl
theorem xus : FL x3b x91 := le1 (fn := Try.f86) (by kernel_rfl) (by kernel_rfl) (by kernel_rfl) (by kernel_rfl) (fun call hs t0 m => (congrFun (x16o call hs m.next) _).trans (by kernel_rfl)) (fun _ _ _ _ _ h => by unfold x91 at h; split at h <;> first | exact ⟨_, rfl⟩ | cases h)
noncomputable abbrev xof : Fs → O2 := x1eb Try.prog [.tmp 2]
noncomputable abbrev x1u6 := XK call { f := xt, u := u, nt := 5, hs := hs } xof
noncomputable def x16p := x1ec xt
theorem x16q : x1u6 call hs u x16p xof eNil = (j1 (xek call hs u) 0) := by kernel_rfl
theorem xt5 : FL xt x6e := le1 (fn := Try.f87) (by kernel_rfl) (by kernel_rfl) (by kernel_rfl) (by kernel_rfl) (fun call hs t0 m => (congrFun (x16q call hs m.next) _).trans (by kernel_rfl)) (fun _ _ _ _ _ h => by unfold x6e at h; split at h <;> first | exact ⟨_, rfl⟩ | cases h)
noncomputable abbrev xbp : Fs → O2 := x1eb Try.prog [.tmp 4, .tmp 5]
noncomputable abbrev x1jp := XK call { f := x7c, u := u, nt := 76, hs := hs } xbp
noncomputable def xog := x1ec x7c
noncomputable def xgn := nRs 3 xog
noncomputable def xoh := nL xgn
noncomputable def x16r := nR xgn
noncomputable def xoi := nR xoh
noncomputable def xoj := nR xoi
noncomputable def x16s := nR xoj
theorem x16t : x1jp call hs u x16r xbp eNil = (j2 (x4n call hs u) 6 7) := by kernel_rfl
theorem x16u (rec0 : AV → AV → AV → AV → AV → AV → Mem → Nat → O2) : x1jp call hs u x16s (j6 rec0 1 6 7 23 24 25) (setE 0 (j2 (x4n call hs u) 6 7) eNil) = (j6 (xiw call hs u rec0) 1 6 7 23 24 25) := by kernel_rfl
theorem x16v : x1jp call hs u xoj (j2 (x4n call hs u) 6 7) (setE 0 (j2 (x4n call hs u) 6 7) eNil) = (j6 (x5n call hs u NN) 1 6 7 23 24 25) := lp (Ln := fun n => j6 (x5n call hs u n) 1 6 7 23 24 25) (by kernel_rfl) rfl fun n => (x16u call hs u (x5n call hs u n)).trans (by kernel_rfl)
theorem x16w : x1jp call hs u xoi (j2 (x4n call hs u) 6 7) eNil = (j6 (x5n call hs u NN) 1 6 7 23 24 25) := bk (by kernel_rfl) (x16v call hs u)
theorem x16x : x1jp call hs u xoh (j2 (x4n call hs u) 6 7) eNil = (j4 (xel call hs u) 1 2 6 7) := (sqN 1 (by kernel_rfl) (x16w call hs u)).trans (by kernel_rfl)
theorem x16y : x1jp call hs u xgn xbp eNil = (j4 (xel call hs u) 1 2 6 7) := sq2 (by kernel_rfl) (x16t call hs u) (x16x call hs u)
theorem x16z : x1jp call hs u xog xbp eNil = (j2 (xix call hs u) 0 1) := (sqN 3 (by kernel_rfl) (x16y call hs u)).trans (by kernel_rfl)
theorem xut : FL x7c xcv := le2 (fn := Try.f88) (by kernel_rfl) (by kernel_rfl) (by kernel_rfl) (by kernel_rfl) (fun call hs t0 t1 m => (congrFun (x16z call hs m.next) _).trans (by kernel_rfl)) (fun _ _ _ _ _ h => by unfold xcv at h; split at h <;> first | exact ⟨_, _, rfl⟩ | cases h)
noncomputable abbrev xok : Fs → O2 := x1eb Try.prog [.tmp 4]
noncomputable abbrev x1u7 := XK call { f := x45, u := u, nt := 20, hs := hs } xok
noncomputable def x170 := x1ec x45
theorem x171 : x1u7 call hs u x170 xok eNil = (j2 (xem call hs u) 0 1) := by kernel_rfl
theorem xuu : FL x45 x7d := le2 (fn := Try.f89) (by kernel_rfl) (by kernel_rfl) (by kernel_rfl) (by kernel_rfl) (fun call hs t0 t1 m => (congrFun (x171 call hs m.next) _).trans (by kernel_rfl)) (fun _ _ _ _ _ h => by unfold x7d at h; split at h <;> first | exact ⟨_, _, rfl⟩ | cases h)
noncomputable abbrev xol : Fs → O2 := x1eb Try.prog [.tmp 6]
noncomputable abbrev x1u8 := XK call { f := x46, u := u, nt := 38, hs := hs } xol
noncomputable def x172 := x1ec x46
theorem x173 : x1u8 call hs u x172 xol eNil = (j3 (xen call hs u) 0 1 2) := by kernel_rfl
theorem xuv : FL x46 x7e := le3 (fn := Try.f90) (by kernel_rfl) (by kernel_rfl) (by kernel_rfl) (by kernel_rfl) (fun call hs t0 t1 t2 m => (congrFun (x173 call hs m.next) _).trans (by kernel_rfl)) (fun _ _ _ _ _ h => by unfold x7e at h; split at h <;> first | exact ⟨_, _, _, rfl⟩ | cases h)
noncomputable abbrev xbq : Fs → O2 := x1eb Try.prog [.tmp 2]
noncomputable abbrev x1mj := XK call { f := x21, u := u, nt := 12, hs := hs } xbq
noncomputable def xom := x1ec x21
noncomputable def xgo := nRs 2 xom
noncomputable def x174 := nL xgo
noncomputable def x175 := nR xgo
theorem x176 : x1mj call hs u x175 xbq eNil = (j1 (x5o call hs u) 0) := by kernel_rfl
theorem x177 : x1mj call hs u x174 (j1 (x5o call hs u) 0) eNil = (j1 (xab call hs u) 0) := by kernel_rfl
theorem x178 : x1mj call hs u xgo xbq eNil = (j1 (xab call hs u) 0) := sq2 (by kernel_rfl) (x176 call hs u) (x177 call hs u)
theorem x179 : x1mj call hs u xom xbq eNil = (j1 (xeo call hs u) 0) := (sqN 2 (by kernel_rfl) (x178 call hs u)).trans (by kernel_rfl)
theorem xt4 : FL x21 x6d := le1 (fn := Try.f91) (by kernel_rfl) (by kernel_rfl) (by kernel_rfl) (by kernel_rfl) (fun call hs t0 m => (congrFun (x179 call hs m.next) _).trans (by kernel_rfl)) (fun _ _ _ _ _ h => by unfold x6d at h; split at h <;> first | exact ⟨_, rfl⟩ | cases h)
noncomputable abbrev xon : Fs → O2 := x1eb Try.prog [.tmp 6]
noncomputable abbrev x1u9 := XK call { f := x7f, u := u, nt := 29, hs := hs } xon
noncomputable def x17a := x1ec x7f
theorem x17b : x1u9 call hs u x17a xon eNil = (j3 (xiy call hs u) 0 1 2) := by kernel_rfl
theorem xuw : FL x7f xcw := le3 (fn := Try.f92) (by kernel_rfl) (by kernel_rfl) (by kernel_rfl) (by kernel_rfl) (fun call hs t0 t1 t2 m => (congrFun (x17b call hs m.next) _).trans (by kernel_rfl)) (fun _ _ _ _ _ h => by unfold xcw at h; split at h <;> first | exact ⟨_, _, _, rfl⟩ | cases h)
noncomputable abbrev xoo : Fs → O2 := x1eb Try.prog [.tmp 6]
noncomputable abbrev x1ua := XK call { f := x4y, u := u, nt := 27, hs := hs } xoo
noncomputable def x17c := x1ec x4y
theorem x17d : x1ua call hs u x17c xoo eNil = (j3 (xiz call hs u) 0 1 2) := by kernel_rfl
theorem xux : FL x4y xcx := le3 (fn := Try.f93) (by kernel_rfl) (by kernel_rfl) (by kernel_rfl) (by kernel_rfl) (fun call hs t0 t1 t2 m => (congrFun (x17d call hs m.next) _).trans (by kernel_rfl)) (fun _ _ _ _ _ h => by unfold xcx at h; split at h <;> first | exact ⟨_, _, _, rfl⟩ | cases h)
noncomputable abbrev xbr : Fs → O2 := x1eb Try.prog [.tmp 4]
noncomputable abbrev x1i3 := XK call { f := x7g, u := u, nt := 29, hs := hs } xbr
noncomputable def xop := x1ec x7g
noncomputable def xgp := nRs 2 xop
noncomputable def xoq := nL xgp
noncomputable def x17e := nR xgp
noncomputable def xor := nR xoq
noncomputable def xos := nR xor
noncomputable def xot := nR xos
noncomputable def xgq := nRs 2 xot
noncomputable def x17f := nL xgq
noncomputable def x17g := nR xgq
theorem x17h : x1i3 call hs u x17e xbr eNil = (j1 (x1v call hs u) 5) := by kernel_rfl
theorem x17i (rec0 : AV → AV → AV → AV → AV → Mem → Nat → O2) : x1i3 call hs u x17g (j5 rec0 1 5 10 11 12) (setE 0 (j1 (x1v call hs u) 5) eNil) = (j5 (xac call hs u rec0) 1 5 10 11 12) := by kernel_rfl
theorem x17j (rec0 : AV → AV → AV → AV → AV → Mem → Nat → O2) : x1i3 call hs u x17f (j5 (xac call hs u rec0) 1 5 10 11 12) (setE 0 (j1 (x1v call hs u) 5) eNil) = (j5 (xep call hs u rec0) 1 5 10 11 12) := by kernel_rfl
theorem x17k (rec0 : AV → AV → AV → AV → AV → Mem → Nat → O2) : x1i3 call hs u xgq (j5 rec0 1 5 10 11 12) (setE 0 (j1 (x1v call hs u) 5) eNil) = (j5 (xep call hs u rec0) 1 5 10 11 12) := sq2 (by kernel_rfl) (x17i call hs u rec0) (x17j call hs u rec0)
theorem x17l (rec0 : AV → AV → AV → AV → AV → Mem → Nat → O2) : x1i3 call hs u xot (j5 rec0 1 5 10 11 12) (setE 0 (j1 (x1v call hs u) 5) eNil) = (j5 (xj0 call hs u rec0) 1 5 10 11 12) := (sqN 2 (by kernel_rfl) (x17k call hs u rec0)).trans (by kernel_rfl)
theorem x17m : x1i3 call hs u xos (j1 (x1v call hs u) 5) (setE 0 (j1 (x1v call hs u) 5) eNil) = (j5 (x5p call hs u NN) 1 5 10 11 12) := lp (Ln := fun n => j5 (x5p call hs u n) 1 5 10 11 12) (by kernel_rfl) rfl fun n => (x17l call hs u (x5p call hs u n)).trans (by kernel_rfl)
theorem x17n : x1i3 call hs u xor (j1 (x1v call hs u) 5) eNil = (j5 (x5p call hs u NN) 1 5 10 11 12) := bk (by kernel_rfl) (x17m call hs u)
theorem x17o : x1i3 call hs u xoq (j1 (x1v call hs u) 5) eNil = (j3 (xeq call hs u) 1 2 5) := (sqN 1 (by kernel_rfl) (x17n call hs u)).trans (by kernel_rfl)
theorem x17p : x1i3 call hs u xgp xbr eNil = (j3 (xeq call hs u) 1 2 5) := sq2 (by kernel_rfl) (x17h call hs u) (x17o call hs u)
theorem x17q : x1i3 call hs u xop xbr eNil = (j2 (xj1 call hs u) 0 1) := (sqN 2 (by kernel_rfl) (x17p call hs u)).trans (by kernel_rfl)
theorem xuy : FL x7g xcy := le2 (fn := Try.f95) (by kernel_rfl) (by kernel_rfl) (by kernel_rfl) (by kernel_rfl) (fun call hs t0 t1 m => (congrFun (x17q call hs m.next) _).trans (by kernel_rfl)) (fun _ _ _ _ _ h => by unfold xcy at h; split at h <;> first | exact ⟨_, _, rfl⟩ | cases h)
noncomputable abbrev xou : Fs → O2 := x1eb Try.prog [.tmp 4]
noncomputable abbrev x1ub := XK call { f := x40, u := u, nt := 19, hs := hs } xou
noncomputable def x17r := x1ec x40
theorem x17s : x1ub call hs u x17r xou eNil = (j2 (xer call hs u) 0 1) := by kernel_rfl
theorem xt6 : FL x40 x6f := le2 (fn := Try.f97) (by kernel_rfl) (by kernel_rfl) (by kernel_rfl) (by kernel_rfl) (fun call hs t0 t1 m => (congrFun (x17s call hs m.next) _).trans (by kernel_rfl)) (fun _ _ _ _ _ h => by unfold x6f at h; split at h <;> first | exact ⟨_, _, rfl⟩ | cases h)
noncomputable abbrev xov : Fs → O2 := x1eb Try.prog [.tmp 2]
noncomputable abbrev x1uc := XK call { f := x7h, u := u, nt := 5, hs := hs } xov
noncomputable def x17t := x1ec x7h
theorem x17u : x1uc call hs u x17t xov eNil = (j1 (xj2 call hs u) 0) := by kernel_rfl
theorem xuz : FL x7h xcz := le1 (fn := Try.f98) (by kernel_rfl) (by kernel_rfl) (by kernel_rfl) (by kernel_rfl) (fun call hs t0 m => (congrFun (x17u call hs m.next) _).trans (by kernel_rfl)) (fun _ _ _ _ _ h => by unfold xcz at h; split at h <;> first | exact ⟨_, rfl⟩ | cases h)
noncomputable abbrev xbs : Fs → O2 := x1eb Try.prog [.tmp 4]
noncomputable abbrev x1mk := XK call { f := x4z, u := u, nt := 14, hs := hs } xbs
noncomputable def xow := x1ec x4z
noncomputable def xgr := nRs 2 xow
noncomputable def x17v := nL xgr
noncomputable def x17w := nR xgr
theorem x17x : x1mk call hs u x17w xbs eNil = (j1 (xad call hs u) 0) := by kernel_rfl
theorem x17y : x1mk call hs u x17v (j1 (xad call hs u) 0) eNil = (j2 (xes call hs u) 0 1) := by kernel_rfl
theorem x17z : x1mk call hs u xgr xbs eNil = (j2 (xes call hs u) 0 1) := sq2 (by kernel_rfl) (x17x call hs u) (x17y call hs u)
theorem x180 : x1mk call hs u xow xbs eNil = (j2 (xj3 call hs u) 0 1) := (sqN 2 (by kernel_rfl) (x17z call hs u)).trans (by kernel_rfl)
theorem xv0 : FL x4z xd0 := le2 (fn := Try.f99) (by kernel_rfl) (by kernel_rfl) (by kernel_rfl) (by kernel_rfl) (fun call hs t0 t1 m => (congrFun (x180 call hs m.next) _).trans (by kernel_rfl)) (fun _ _ _ _ _ h => by unfold xd0 at h; split at h <;> first | exact ⟨_, _, rfl⟩ | cases h)
noncomputable abbrev xox : Fs → O2 := x1eb Try.prog [.tmp 4]
noncomputable abbrev x1ud := XK call { f := x7i, u := u, nt := 19, hs := hs } xox
noncomputable def x181 := x1ec x7i
theorem x182 : x1ud call hs u x181 xox eNil = (j2 (xj4 call hs u) 0 1) := by kernel_rfl
theorem xv1 : FL x7i xd1 := le2 (fn := Try.f100) (by kernel_rfl) (by kernel_rfl) (by kernel_rfl) (by kernel_rfl) (fun call hs t0 t1 m => (congrFun (x182 call hs m.next) _).trans (by kernel_rfl)) (fun _ _ _ _ _ h => by unfold xd1 at h; split at h <;> first | exact ⟨_, _, rfl⟩ | cases h)
noncomputable abbrev xoy : Fs → O2 := x1eb Try.prog [.tmp 3]
noncomputable abbrev x1ue := XK call { f := x7j, u := u, nt := 15, hs := hs } xoy
noncomputable def x183 := x1ec x7j
theorem x184 : x1ue call hs u x183 xoy eNil = (j2 (xj5 call hs u) 0 1) := by kernel_rfl
theorem xv2 : FL x7j xd2 := le2 (fn := Try.f101) (by kernel_rfl) (by kernel_rfl) (by kernel_rfl) (by kernel_rfl) (fun call hs t0 t1 m => (congrFun (x184 call hs m.next) _).trans (by kernel_rfl)) (fun _ _ _ _ _ h => by unfold xd2 at h; split at h <;> first | exact ⟨_, _, rfl⟩ | cases h)
noncomputable abbrev xbt : Fs → O2 := x1eb Try.prog [.tmp 2, .tmp 3]
noncomputable abbrev x1jq := XK call { f := x7k, u := u, nt := 62, hs := hs } xbt
noncomputable def xoz := x1ec x7k
noncomputable def xgs := nRs 2 xoz
noncomputable def xp0 := nL xgs
noncomputable def x185 := nR xgs
noncomputable def xp1 := nR xp0
noncomputable def xp2 := nR xp1
noncomputable def x186 := nR xp2
theorem x187 : x1jq call hs u x185 xbt eNil = (j0 (x4o call hs u)) := by kernel_rfl
theorem x188 (rec0 : AV → AV → AV → AV → Mem → Nat → O2) : x1jq call hs u x186 (j4 rec0 1 17 18 19) (setE 1 (j0 (x4o call hs u)) eNil) = (j4 (xj6 call hs u rec0) 1 17 18 19) := by kernel_rfl
theorem x189 : x1jq call hs u xp2 (j0 (x4o call hs u)) (setE 1 (j0 (x4o call hs u)) eNil) = (j4 (x5q call hs u NN) 1 17 18 19) := lp (Ln := fun n => j4 (x5q call hs u n) 1 17 18 19) (by kernel_rfl) rfl fun n => (x188 call hs u (x5q call hs u n)).trans (by kernel_rfl)
theorem x18a : x1jq call hs u xp1 (j0 (x4o call hs u)) eNil = (j4 (x5q call hs u NN) 1 17 18 19) := bk (by kernel_rfl) (x189 call hs u)
theorem x18b : x1jq call hs u xp0 (j0 (x4o call hs u)) eNil = (j1 (xet call hs u) 1) := (sqN 1 (by kernel_rfl) (x18a call hs u)).trans (by kernel_rfl)
theorem x18c : x1jq call hs u xgs xbt eNil = (j1 (xet call hs u) 1) := sq2 (by kernel_rfl) (x187 call hs u) (x18b call hs u)
theorem x18d : x1jq call hs u xoz xbt eNil = (j1 (xj7 call hs u) 0) := (sqN 2 (by kernel_rfl) (x18c call hs u)).trans (by kernel_rfl)
theorem xv3 : FL x7k xd3 := le1 (fn := Try.f102) (by kernel_rfl) (by kernel_rfl) (by kernel_rfl) (by kernel_rfl) (fun call hs t0 m => (congrFun (x18d call hs m.next) _).trans (by kernel_rfl)) (fun _ _ _ _ _ h => by unfold xd3 at h; split at h <;> first | exact ⟨_, rfl⟩ | cases h)
noncomputable abbrev xbu : Fs → O2 := x1eb Try.prog [.tmp 2]
noncomputable abbrev x1gr := XK call { f := x3c, u := u, nt := 132, hs := hs } xbu
noncomputable def xp3 := x1ec x3c
noncomputable def xgt := nRs 2 xp3
noncomputable def xp4 := nL xgt
noncomputable def x18e := nR xgt
noncomputable def xp5 := nR xp4
noncomputable def xp6 := nR xp5
noncomputable def xp7 := nR xp6
noncomputable def xgu := nRs 2 xp7
noncomputable def xp8 := nL xgu
noncomputable def x18f := nR xgu
noncomputable def xp9 := nR xp8
noncomputable def xgv := nR xp9
noncomputable def x18g := nL xgv
noncomputable def x18h := nR xgv
theorem x18i : x1gr call hs u x18e xbu eNil = (j1 (xp call hs u) 3) := by kernel_rfl
theorem x18j (rec0 : AV → AV → AV → AV → Mem → Nat → O2) : x1gr call hs u x18f (j4 rec0 3 28 29 30) (setE 0 (j1 (xp call hs u) 3) eNil) = (j4 (x1j call hs u rec0) 3 28 29 30) := by kernel_rfl
theorem x18k (rec0 : AV → AV → AV → AV → Mem → Nat → O2) : x1gr call hs u x18h (j4 (x1j call hs u rec0) 3 28 29 30) (setE 1 (j4 (x1j call hs u rec0) 3 28 29 30) (setE 0 (j1 (xp call hs u) 3) eNil)) = (j6 (x3t call hs u rec0) 3 4 5 28 29 30) := by kernel_rfl
theorem x18l (rec0 : AV → AV → AV → AV → Mem → Nat → O2) : x1gr call hs u x18g (j6 (x3t call hs u rec0) 3 4 5 28 29 30) (setE 1 (j4 (x1j call hs u rec0) 3 28 29 30) (setE 0 (j1 (xp call hs u) 3) eNil)) = (j6 (xae call hs u rec0) 3 4 5 28 29 30) := by kernel_rfl
theorem x18m (rec0 : AV → AV → AV → AV → Mem → Nat → O2) : x1gr call hs u xgv (j4 (x1j call hs u rec0) 3 28 29 30) (setE 1 (j4 (x1j call hs u rec0) 3 28 29 30) (setE 0 (j1 (xp call hs u) 3) eNil)) = (j6 (xae call hs u rec0) 3 4 5 28 29 30) := sq2 (by kernel_rfl) (x18k call hs u rec0) (x18l call hs u rec0)
theorem x18n (rec0 : AV → AV → AV → AV → Mem → Nat → O2) : x1gr call hs u xp9 (j4 (x1j call hs u rec0) 3 28 29 30) (setE 1 (j4 (x1j call hs u rec0) 3 28 29 30) (setE 0 (j1 (xp call hs u) 3) eNil)) = (j4 (x85 call hs u rec0) 3 28 29 30) := (sqN 1 (by kernel_rfl) (x18m call hs u rec0)).trans (by kernel_rfl)
theorem x18o (rec0 : AV → AV → AV → AV → Mem → Nat → O2) : x1gr call hs u xp8 (j4 (x1j call hs u rec0) 3 28 29 30) (setE 0 (j1 (xp call hs u) 3) eNil) = (j4 (x85 call hs u rec0) 3 28 29 30) := bk (by kernel_rfl) (x18n call hs u rec0)
theorem x18p (rec0 : AV → AV → AV → AV → Mem → Nat → O2) : x1gr call hs u xgu (j4 rec0 3 28 29 30) (setE 0 (j1 (xp call hs u) 3) eNil) = (j4 (x85 call hs u rec0) 3 28 29 30) := sq2 (by kernel_rfl) (x18j call hs u rec0) (x18o call hs u rec0)
theorem x18q (rec0 : AV → AV → AV → AV → Mem → Nat → O2) : x1gr call hs u xp7 (j4 rec0 3 28 29 30) (setE 0 (j1 (xp call hs u) 3) eNil) = (j4 (xaf call hs u rec0) 3 28 29 30) := (sqN 2 (by kernel_rfl) (x18p call hs u rec0)).trans (by kernel_rfl)
theorem x18r : x1gr call hs u xp6 (j1 (xp call hs u) 3) (setE 0 (j1 (xp call hs u) 3) eNil) = (j4 (x1k call hs u NN) 3 28 29 30) := lp (Ln := fun n => j4 (x1k call hs u n) 3 28 29 30) (by kernel_rfl) rfl fun n => (x18q call hs u (x1k call hs u n)).trans (by kernel_rfl)
theorem x18s : x1gr call hs u xp5 (j1 (xp call hs u) 3) eNil = (j4 (x1k call hs u NN) 3 28 29 30) := bk (by kernel_rfl) (x18r call hs u)
theorem x18t : x1gr call hs u xp4 (j1 (xp call hs u) 3) eNil = (j2 (xag call hs u) 1 3) := (sqN 1 (by kernel_rfl) (x18s call hs u)).trans (by kernel_rfl)
theorem x18u : x1gr call hs u xgt xbu eNil = (j2 (xag call hs u) 1 3) := sq2 (by kernel_rfl) (x18i call hs u) (x18t call hs u)
theorem x18v : x1gr call hs u xp3 xbu eNil = (j1 (xeu call hs u) 0) := (sqN 2 (by kernel_rfl) (x18u call hs u)).trans (by kernel_rfl)
theorem xv4 : FL x3c x7l := le1 (fn := Try.f103) (by kernel_rfl) (by kernel_rfl) (by kernel_rfl) (by kernel_rfl) (fun call hs t0 m => (congrFun (x18v call hs m.next) _).trans (by kernel_rfl)) (fun _ _ _ _ _ h => by unfold x7l at h; split at h <;> first | exact ⟨_, rfl⟩ | cases h)
noncomputable abbrev xbv : Fs → O2 := x1eb Try.prog [.tmp 4]
noncomputable abbrev x1jr := XK call { f := x23, u := u, nt := 19, hs := hs } xbv
noncomputable def xpa := x1ec x23
noncomputable def xgw := nR xpa
noncomputable def xpb := nL xgw
noncomputable def x18w := nR xgw
noncomputable def xpc := nR xpb
noncomputable def xpd := nR xpc
noncomputable def x18x := nR xpd
theorem x18y : x1jr call hs u x18w xbv eNil = (j0 (x2p call hs u)) := by kernel_rfl
theorem x18z (rec0 : AV → AV → AV → AV → Mem → Nat → O2) : x1jr call hs u x18x (j4 rec0 0 1 7 8) (setE 0 (j0 (x2p call hs u)) eNil) = (j4 (x4p call hs u rec0) 0 1 7 8) := by kernel_rfl
theorem x190 : x1jr call hs u xpd (j0 (x2p call hs u)) (setE 0 (j0 (x2p call hs u)) eNil) = (j4 (xx call hs u NN) 0 1 7 8) := lp (Ln := fun n => j4 (xx call hs u n) 0 1 7 8) (by kernel_rfl) rfl fun n => (x18z call hs u (xx call hs u n)).trans (by kernel_rfl)
theorem x191 : x1jr call hs u xpc (j0 (x2p call hs u)) eNil = (j4 (xx call hs u NN) 0 1 7 8) := bk (by kernel_rfl) (x190 call hs u)
theorem x192 : x1jr call hs u xpb (j0 (x2p call hs u)) eNil = (j2 (x86 call hs u) 0 1) := (sqN 1 (by kernel_rfl) (x191 call hs u)).trans (by kernel_rfl)
theorem x193 : x1jr call hs u xgw xbv eNil = (j2 (x86 call hs u) 0 1) := sq2 (by kernel_rfl) (x18y call hs u) (x192 call hs u)
theorem x194 : x1jr call hs u xpa xbv eNil = (j2 (xah call hs u) 0 1) := (sqN 1 (by kernel_rfl) (x193 call hs u)).trans (by kernel_rfl)
theorem xt8 : FL x23 x4r := le2 (fn := Try.f104) (by kernel_rfl) (by kernel_rfl) (by kernel_rfl) (by kernel_rfl) (fun call hs t0 t1 m => (congrFun (x194 call hs m.next) _).trans (by kernel_rfl)) (fun _ _ _ _ _ h => by unfold x4r at h; split at h <;> first | exact ⟨_, _, rfl⟩ | cases h)
noncomputable abbrev xpe : Fs → O2 := x1eb Try.prog [.tmp 2]
noncomputable abbrev x1uf := XK call { f := x1p, u := u, nt := 5, hs := hs } xpe
noncomputable def x195 := x1ec x1p
theorem x196 : x1uf call hs u x195 xpe eNil = (j1 (xev call hs u) 0) := by kernel_rfl
theorem xt9 : FL x1p x6h := le1 (fn := Try.f105) (by kernel_rfl) (by kernel_rfl) (by kernel_rfl) (by kernel_rfl) (fun call hs t0 m => (congrFun (x196 call hs m.next) _).trans (by kernel_rfl)) (fun _ _ _ _ _ h => by unfold x6h at h; split at h <;> first | exact ⟨_, rfl⟩ | cases h)
noncomputable abbrev x1o : Fs → O2 := x1eb Try.prog []
noncomputable abbrev x1fi := XK call { f := x3d, u := u, nt := 160, hs := hs } x1o
noncomputable def xpf := x1ec x3d
noncomputable def xgx := nRs 2 xpf
noncomputable def xpg := nL xgx
noncomputable def xph := nR xgx
noncomputable def xgy := nR xph
noncomputable def xpi := nL xgy
noncomputable def xgz := nR xgy
noncomputable def xpj := nL xgz
noncomputable def xpk := nR xgz
noncomputable def xpl := nRs 3 xpk
noncomputable def xpm := nR xpl
noncomputable def x197 := nR xpm
noncomputable def xpn := nR xpj
noncomputable def xpo := nR xpn
noncomputable def x198 := nR xpo
noncomputable def xpp := nR xpi
noncomputable def xpq := nR xpp
noncomputable def x199 := nR xpq
noncomputable def xpr := nR xpg
noncomputable def xps := nR xpr
noncomputable def xpt := nR xps
noncomputable def xh0 := nRs 2 xpt
noncomputable def x19a := nL xh0
noncomputable def x19b := nR xh0
theorem x19c (rec0 : AV → AV → AV → AV → AV → AV → Mem → Nat → O2) : x1fi call hs u x197 (j6 rec0 0 4 5 136 137 138) (setE 6 x1o eNil) = (j6 (xai call hs u rec0) 0 4 5 136 137 138) := by kernel_rfl
theorem x19d : x1fi call hs u xpm x1o (setE 6 x1o eNil) = (j6 (x2q call hs u NN) 0 4 5 136 137 138) := lp (Ln := fun n => j6 (x2q call hs u n) 0 4 5 136 137 138) (by kernel_rfl) rfl fun n => (x19c call hs u (x2q call hs u n)).trans (by kernel_rfl)
theorem x19e : x1fi call hs u xpl x1o eNil = (j6 (x2q call hs u NN) 0 4 5 136 137 138) := bk (by kernel_rfl) (x19d call hs u)
theorem x19f : x1fi call hs u xpk x1o eNil = (j5 (x2r call hs u) 0 1 4 5 8) := (sqN 3 (by kernel_rfl) (x19e call hs u)).trans (by kernel_rfl)
theorem x19g (rec1 : AV → AV → AV → AV → AV → AV → Mem → Nat → O2) : x1fi call hs u x198 (j6 rec1 0 1 4 5 8 10) (setE 4 (j5 (x2r call hs u) 0 1 4 5 8) eNil) = (j6 (xaj call hs u rec1) 0 1 4 5 8 10) := by kernel_rfl
theorem x19h : x1fi call hs u xpo (j5 (x2r call hs u) 0 1 4 5 8) (setE 4 (j5 (x2r call hs u) 0 1 4 5 8) eNil) = (j6 (x2s call hs u NN) 0 1 4 5 8 10) := lp (Ln := fun n => j6 (x2s call hs u n) 0 1 4 5 8 10) (by kernel_rfl) rfl fun n => (x19g call hs u (x2s call hs u n)).trans (by kernel_rfl)
theorem x19i : x1fi call hs u xpn (j5 (x2r call hs u) 0 1 4 5 8) eNil = (j6 (x2s call hs u NN) 0 1 4 5 8 10) := bk (by kernel_rfl) (x19h call hs u)
theorem x19j : x1fi call hs u xpj (j5 (x2r call hs u) 0 1 4 5 8) eNil = (j5 (x1w call hs u) 0 1 4 5 8) := (sqN 1 (by kernel_rfl) (x19i call hs u)).trans (by kernel_rfl)
theorem x19k : x1fi call hs u xgz x1o eNil = (j5 (x1w call hs u) 0 1 4 5 8) := sq2 (by kernel_rfl) (x19f call hs u) (x19j call hs u)
theorem x19l (rec2 : AV → AV → AV → AV → AV → AV → Mem → Nat → O2) : x1fi call hs u x199 (j6 rec2 0 1 4 5 8 9) (setE 2 (j5 (x1w call hs u) 0 1 4 5 8) eNil) = (j6 (xak call hs u rec2) 0 1 4 5 8 9) := by kernel_rfl
theorem x19m : x1fi call hs u xpq (j5 (x1w call hs u) 0 1 4 5 8) (setE 2 (j5 (x1w call hs u) 0 1 4 5 8) eNil) = (j6 (x2t call hs u NN) 0 1 4 5 8 9) := lp (Ln := fun n => j6 (x2t call hs u n) 0 1 4 5 8 9) (by kernel_rfl) rfl fun n => (x19l call hs u (x2t call hs u n)).trans (by kernel_rfl)
theorem x19n : x1fi call hs u xpp (j5 (x1w call hs u) 0 1 4 5 8) eNil = (j6 (x2t call hs u NN) 0 1 4 5 8 9) := bk (by kernel_rfl) (x19m call hs u)
theorem x19o : x1fi call hs u xpi (j5 (x1w call hs u) 0 1 4 5 8) eNil = (j5 (xal call hs u) 0 1 4 5 8) := (sqN 1 (by kernel_rfl) (x19n call hs u)).trans (by kernel_rfl)
theorem x19p : x1fi call hs u xgy x1o eNil = (j5 (xal call hs u) 0 1 4 5 8) := sq2 (by kernel_rfl) (x19k call hs u) (x19o call hs u)
theorem x19q : x1fi call hs u xph x1o eNil = (j4 (x13 call hs u) 0 1 4 5) := (sqN 1 (by kernel_rfl) (x19p call hs u)).trans (by kernel_rfl)
theorem x19r (rec3 : AV → AV → AV → AV → AV → AV → AV → Mem → Nat → O2) : x1fi call hs u x19b (j7 rec3 0 1 4 5 17 18 19) (setE 0 (j4 (x13 call hs u) 0 1 4 5) eNil) = (j7 (x2u call hs u rec3) 0 1 4 5 17 18 19) := by kernel_rfl
theorem x19s (rec3 : AV → AV → AV → AV → AV → AV → AV → Mem → Nat → O2) : x1fi call hs u x19a (j7 (x2u call hs u rec3) 0 1 4 5 17 18 19) (setE 0 (j4 (x13 call hs u) 0 1 4 5) eNil) = (j7 (x87 call hs u rec3) 0 1 4 5 17 18 19) := by kernel_rfl
theorem x19t (rec3 : AV → AV → AV → AV → AV → AV → AV → Mem → Nat → O2) : x1fi call hs u xh0 (j7 rec3 0 1 4 5 17 18 19) (setE 0 (j4 (x13 call hs u) 0 1 4 5) eNil) = (j7 (x87 call hs u rec3) 0 1 4 5 17 18 19) := sq2 (by kernel_rfl) (x19r call hs u rec3) (x19s call hs u rec3)
theorem x19u (rec3 : AV → AV → AV → AV → AV → AV → AV → Mem → Nat → O2) : x1fi call hs u xpt (j7 rec3 0 1 4 5 17 18 19) (setE 0 (j4 (x13 call hs u) 0 1 4 5) eNil) = (j7 (x88 call hs u rec3) 0 1 4 5 17 18 19) := (sqN 2 (by kernel_rfl) (x19t call hs u rec3)).trans (by kernel_rfl)
theorem x19v : x1fi call hs u xps (j4 (x13 call hs u) 0 1 4 5) (setE 0 (j4 (x13 call hs u) 0 1 4 5) eNil) = (j7 (x1x call hs u NN) 0 1 4 5 17 18 19) := lp (Ln := fun n => j7 (x1x call hs u n) 0 1 4 5 17 18 19) (by kernel_rfl) rfl fun n => (x19u call hs u (x1x call hs u n)).trans (by kernel_rfl)
theorem x19w : x1fi call hs u xpr (j4 (x13 call hs u) 0 1 4 5) eNil = (j7 (x1x call hs u NN) 0 1 4 5 17 18 19) := bk (by kernel_rfl) (x19v call hs u)
theorem x19x : x1fi call hs u xpg (j4 (x13 call hs u) 0 1 4 5) eNil = (j4 (xam call hs u) 0 1 4 5) := (sqN 1 (by kernel_rfl) (x19w call hs u)).trans (by kernel_rfl)
theorem x19y : x1fi call hs u xgx x1o eNil = (j4 (xam call hs u) 0 1 4 5) := sq2 (by kernel_rfl) (x19q call hs u) (x19x call hs u)
theorem x19z : x1fi call hs u xpf x1o eNil = (j2 (xew call hs u) 0 1) := (sqN 2 (by kernel_rfl) (x19y call hs u)).trans (by kernel_rfl)
theorem xv5 : FL x3d x7m := le2 (fn := Try.f106) (by kernel_rfl) (by kernel_rfl) (by kernel_rfl) (by kernel_rfl) (fun call hs t0 t1 m => (congrFun (x19z call hs m.next) _).trans (by kernel_rfl)) (fun _ _ _ _ _ h => by unfold x7m at h; split at h <;> first | exact ⟨_, _, rfl⟩ | cases h)
noncomputable abbrev xpu : Fs → O2 := x1eb Try.prog [.tmp 2]
noncomputable abbrev x1ug := XK call { f := x22, u := u, nt := 7, hs := hs } xpu
noncomputable def x1a0 := x1ec x22
theorem x1a1 : x1ug call hs u x1a0 xpu eNil = (j1 (xex call hs u) 0) := by kernel_rfl
theorem xt7 : FL x22 x6g := le1 (fn := Try.f107) (by kernel_rfl) (by kernel_rfl) (by kernel_rfl) (by kernel_rfl) (fun call hs t0 m => (congrFun (x1a1 call hs m.next) _).trans (by kernel_rfl)) (fun _ _ _ _ _ h => by unfold x6g at h; split at h <;> first | exact ⟨_, rfl⟩ | cases h)
noncomputable abbrev xpv : Fs → O2 := x1eb Try.prog [.tmp 4]
noncomputable abbrev x1uh := XK call { f := x47, u := u, nt := 6, hs := hs } xpv
noncomputable def x1a2 := x1ec x47
theorem x1a3 : x1uh call hs u x1a2 xpv eNil = (j2 (xey call hs u) 0 1) := by kernel_rfl
theorem xv6 : FL x47 x7n := le2 (fn := Try.f108) (by kernel_rfl) (by kernel_rfl) (by kernel_rfl) (by kernel_rfl) (fun call hs t0 t1 m => (congrFun (x1a3 call hs m.next) _).trans (by kernel_rfl)) (fun _ _ _ _ _ h => by unfold x7n at h; split at h <;> first | exact ⟨_, _, rfl⟩ | cases h)
noncomputable abbrev xpw : Fs → O2 := x1eb Try.prog [.tmp 2]
noncomputable abbrev x1ui := XK call { f := x48, u := u, nt := 5, hs := hs } xpw
noncomputable def x1a4 := x1ec x48
theorem x1a5 : x1ui call hs u x1a4 xpw eNil = (j1 (xez call hs u) 0) := by kernel_rfl
theorem xv7 : FL x48 x7o := le1 (fn := Try.f109) (by kernel_rfl) (by kernel_rfl) (by kernel_rfl) (by kernel_rfl) (fun call hs t0 m => (congrFun (x1a5 call hs m.next) _).trans (by kernel_rfl)) (fun _ _ _ _ _ h => by unfold x7o at h; split at h <;> first | exact ⟨_, rfl⟩ | cases h)
noncomputable abbrev xpx : Fs → O2 := x1eb Try.prog [.tmp 3]
noncomputable abbrev x1uj := XK call { f := x3e, u := u, nt := 13, hs := hs } xpx
noncomputable def x1a6 := x1ec x3e
theorem x1a7 : x1uj call hs u x1a6 xpx eNil = (j2 (xf0 call hs u) 0 1) := by kernel_rfl
theorem xv8 : FL x3e x7p := le2 (fn := Try.f110) (by kernel_rfl) (by kernel_rfl) (by kernel_rfl) (by kernel_rfl) (fun call hs t0 t1 m => (congrFun (x1a7 call hs m.next) _).trans (by kernel_rfl)) (fun _ _ _ _ _ h => by unfold x7p at h; split at h <;> first | exact ⟨_, _, rfl⟩ | cases h)
noncomputable abbrev x8l : Fs → O2 := x1eb Try.prog [.tmp 4]
noncomputable abbrev x1kf := XK call { f := x3f, u := u, nt := 27, hs := hs } x8l
noncomputable def xpy := x1ec x3f
noncomputable def xh1 := nR xpy
noncomputable def x1a8 := nL xh1
noncomputable def xh2 := nR xh1
noncomputable def x1a9 := nL xh2
noncomputable def x1aa := nR xh2
theorem x1ab : x1kf call hs u x1aa x8l eNil = (j1 (x5r call hs u) 0) := by kernel_rfl
theorem x1ac : x1kf call hs u x1a9 (j1 (x5r call hs u) 0) eNil = (j2 (x5s call hs u) 0 1) := by kernel_rfl
theorem x1ad : x1kf call hs u xh2 x8l eNil = (j2 (x5s call hs u) 0 1) := sq2 (by kernel_rfl) (x1ab call hs u) (x1ac call hs u)
theorem x1ae : x1kf call hs u x1a8 (j2 (x5s call hs u) 0 1) eNil = (j2 (x89 call hs u) 0 1) := by kernel_rfl
theorem x1af : x1kf call hs u xh1 x8l eNil = (j2 (x89 call hs u) 0 1) := sq2 (by kernel_rfl) (x1ad call hs u) (x1ae call hs u)
theorem x1ag : x1kf call hs u xpy x8l eNil = (j2 (xan call hs u) 0 1) := (sqN 1 (by kernel_rfl) (x1af call hs u)).trans (by kernel_rfl)
theorem xv9 : FL x3f x50 := le2 (fn := Try.f111) (by kernel_rfl) (by kernel_rfl) (by kernel_rfl) (by kernel_rfl) (fun call hs t0 t1 m => (congrFun (x1ag call hs m.next) _).trans (by kernel_rfl)) (fun _ _ _ _ _ h => by unfold x50 at h; split at h <;> first | exact ⟨_, _, rfl⟩ | cases h)
noncomputable abbrev xpz : Fs → O2 := x1eb Try.prog [.tmp 2]
noncomputable abbrev x1uk := XK call { f := x51, u := u, nt := 7, hs := hs } xpz
noncomputable def x1ah := x1ec x51
theorem x1ai : x1uk call hs u x1ah xpz eNil = (j1 (xj9 call hs u) 0) := by kernel_rfl
theorem xva : FL x51 xd4 := le1 (fn := Try.f112) (by kernel_rfl) (by kernel_rfl) (by kernel_rfl) (by kernel_rfl) (fun call hs t0 m => (congrFun (x1ai call hs m.next) _).trans (by kernel_rfl)) (fun _ _ _ _ _ h => by unfold xd4 at h; split at h <;> first | exact ⟨_, rfl⟩ | cases h)
noncomputable abbrev xbw : Fs → O2 := x1eb Try.prog [.tmp 4]
noncomputable abbrev x1gf := XK call { f := x3g, u := u, nt := 45, hs := hs } xbw
noncomputable def xq0 := x1ec x3g
noncomputable def xh3 := nRs 3 xq0
noncomputable def xq1 := nL xh3
noncomputable def x1aj := nR xh3
noncomputable def xq2 := nR xq1
noncomputable def xq3 := nR xq2
noncomputable def xq4 := nR xq3
noncomputable def xh4 := nRs 2 xq4
noncomputable def xq5 := nL xh4
noncomputable def x1ak := nR xh4
noncomputable def xq6 := nR xq5
noncomputable def xh5 := nRs 4 xq6
noncomputable def xq7 := nL xh5
noncomputable def x1al := nR xh5
noncomputable def xq8 := nR xq7
noncomputable def x1am := nR xq8
theorem x1an : x1gf call hs u x1aj xbw eNil = (j1 (xh call hs u) 5) := by kernel_rfl
theorem x1ao (rec0 : AV → AV → AV → AV → AV → Mem → Nat → O2) : x1gf call hs u x1ak (j5 rec0 1 5 6 14 15) (setE 0 (j1 (xh call hs u) 5) eNil) = (j5 (xq call hs u rec0) 1 5 6 14 15) := by kernel_rfl
theorem x1ap (rec0 : AV → AV → AV → AV → AV → Mem → Nat → O2) : x1gf call hs u x1al (j5 (xq call hs u rec0) 1 5 6 14 15) (setE 1 (j5 (xq call hs u rec0) 1 5 6 14 15) (setE 0 (j1 (xh call hs u) 5) eNil)) = (j5 (x3u call hs u rec0) 1 5 6 14 15) := by kernel_rfl
theorem x1aq (rec0 : AV → AV → AV → AV → AV → Mem → Nat → O2) (rec1 : AV → AV → AV → AV → AV → AV → Mem → Nat → O2) : x1gf call hs u x1am (j6 rec1 1 5 6 8 14 15) (setE 2 (j5 (x3u call hs u rec0) 1 5 6 14 15) (setE 1 (j5 (xq call hs u rec0) 1 5 6 14 15) (setE 0 (j1 (xh call hs u) 5) eNil))) = (j6 (x8a call hs u rec0 rec1) 1 5 6 8 14 15) := by kernel_rfl
theorem x1ar (rec0 : AV → AV → AV → AV → AV → Mem → Nat → O2) : x1gf call hs u xq8 (j5 (x3u call hs u rec0) 1 5 6 14 15) (setE 2 (j5 (x3u call hs u rec0) 1 5 6 14 15) (setE 1 (j5 (xq call hs u rec0) 1 5 6 14 15) (setE 0 (j1 (xh call hs u) 5) eNil))) = (j6 (x1l call hs u rec0 NN) 1 5 6 8 14 15) := lp (Ln := fun n => j6 (x1l call hs u rec0 n) 1 5 6 8 14 15) (by kernel_rfl) rfl fun n => (x1aq call hs u rec0 (x1l call hs u rec0 n)).trans (by kernel_rfl)
theorem x1as (rec0 : AV → AV → AV → AV → AV → Mem → Nat → O2) : x1gf call hs u xq7 (j5 (x3u call hs u rec0) 1 5 6 14 15) (setE 1 (j5 (xq call hs u rec0) 1 5 6 14 15) (setE 0 (j1 (xh call hs u) 5) eNil)) = (j6 (x1l call hs u rec0 NN) 1 5 6 8 14 15) := bk (by kernel_rfl) (x1ar call hs u rec0)
theorem x1at (rec0 : AV → AV → AV → AV → AV → Mem → Nat → O2) : x1gf call hs u xh5 (j5 (xq call hs u rec0) 1 5 6 14 15) (setE 1 (j5 (xq call hs u rec0) 1 5 6 14 15) (setE 0 (j1 (xh call hs u) 5) eNil)) = (j6 (x1l call hs u rec0 NN) 1 5 6 8 14 15) := sq2 (by kernel_rfl) (x1ap call hs u rec0) (x1as call hs u rec0)
theorem x1au (rec0 : AV → AV → AV → AV → AV → Mem → Nat → O2) : x1gf call hs u xq6 (j5 (xq call hs u rec0) 1 5 6 14 15) (setE 1 (j5 (xq call hs u rec0) 1 5 6 14 15) (setE 0 (j1 (xh call hs u) 5) eNil)) = (j5 (x5t call hs u rec0) 1 5 6 14 15) := (sqN 4 (by kernel_rfl) (x1at call hs u rec0)).trans (by kernel_rfl)
theorem x1av (rec0 : AV → AV → AV → AV → AV → Mem → Nat → O2) : x1gf call hs u xq5 (j5 (xq call hs u rec0) 1 5 6 14 15) (setE 0 (j1 (xh call hs u) 5) eNil) = (j5 (x5t call hs u rec0) 1 5 6 14 15) := bk (by kernel_rfl) (x1au call hs u rec0)
theorem x1aw (rec0 : AV → AV → AV → AV → AV → Mem → Nat → O2) : x1gf call hs u xh4 (j5 rec0 1 5 6 14 15) (setE 0 (j1 (xh call hs u) 5) eNil) = (j5 (x5t call hs u rec0) 1 5 6 14 15) := sq2 (by kernel_rfl) (x1ao call hs u rec0) (x1av call hs u rec0)
theorem x1ax (rec0 : AV → AV → AV → AV → AV → Mem → Nat → O2) : x1gf call hs u xq4 (j5 rec0 1 5 6 14 15) (setE 0 (j1 (xh call hs u) 5) eNil) = (j5 (x8b call hs u rec0) 1 5 6 14 15) := (sqN 2 (by kernel_rfl) (x1aw call hs u rec0)).trans (by kernel_rfl)
theorem x1ay : x1gf call hs u xq3 (j1 (xh call hs u) 5) (setE 0 (j1 (xh call hs u) 5) eNil) = (j5 (x1m call hs u NN) 1 5 6 14 15) := lp (Ln := fun n => j5 (x1m call hs u n) 1 5 6 14 15) (by kernel_rfl) rfl fun n => (x1ax call hs u (x1m call hs u n)).trans (by kernel_rfl)
theorem x1az : x1gf call hs u xq2 (j1 (xh call hs u) 5) eNil = (j5 (x1m call hs u NN) 1 5 6 14 15) := bk (by kernel_rfl) (x1ay call hs u)
theorem x1b0 : x1gf call hs u xq1 (j1 (xh call hs u) 5) eNil = (j3 (xao call hs u) 1 5 6) := (sqN 1 (by kernel_rfl) (x1az call hs u)).trans (by kernel_rfl)
theorem x1b1 : x1gf call hs u xh3 xbw eNil = (j3 (xao call hs u) 1 5 6) := sq2 (by kernel_rfl) (x1an call hs u) (x1b0 call hs u)
theorem x1b2 : x1gf call hs u xq0 xbw eNil = (j2 (xf1 call hs u) 0 1) := (sqN 3 (by kernel_rfl) (x1b1 call hs u)).trans (by kernel_rfl)
theorem xvb : FL x3g x7q := le2 (fn := Try.f113) (by kernel_rfl) (by kernel_rfl) (by kernel_rfl) (by kernel_rfl) (fun call hs t0 t1 m => (congrFun (x1b2 call hs m.next) _).trans (by kernel_rfl)) (fun _ _ _ _ _ h => by unfold x7q at h; split at h <;> first | exact ⟨_, _, rfl⟩ | cases h)
noncomputable abbrev x66 : Fs → O2 := x1eb Try.prog []
noncomputable abbrev x1ml := XK call { f := x20, u := u, nt := 20, hs := hs } x66
noncomputable def xq9 := x1ec x20
noncomputable def xqa := nR xq9
noncomputable def xqb := nR xqa
noncomputable def x1b3 := nR xqb
theorem x1b4 (rec0 : AV → AV → AV → AV → Mem → Nat → O2) : x1ml call hs u x1b3 (j4 rec0 1 10 11 12) (setE 0 x66 eNil) = (j4 (xap call hs u rec0) 1 10 11 12) := by kernel_rfl
theorem x1b5 : x1ml call hs u xqb x66 (setE 0 x66 eNil) = (j4 (x2v call hs u NN) 1 10 11 12) := lp (Ln := fun n => j4 (x2v call hs u n) 1 10 11 12) (by kernel_rfl) rfl fun n => (x1b4 call hs u (x2v call hs u n)).trans (by kernel_rfl)
theorem x1b6 : x1ml call hs u xqa x66 eNil = (j4 (x2v call hs u NN) 1 10 11 12) := bk (by kernel_rfl) (x1b5 call hs u)
theorem x1b7 : x1ml call hs u xq9 x66 eNil = (j3 (xaq call hs u) 0 1 2) := (sqN 1 (by kernel_rfl) (x1b6 call hs u)).trans (by kernel_rfl)
theorem xt1 : FL x20 x8n := le3 (fn := Try.f114) (by kernel_rfl) (by kernel_rfl) (by kernel_rfl) (by kernel_rfl) (fun call hs t0 t1 t2 m => (congrFun (x1b7 call hs m.next) _).trans (by kernel_rfl)) (fun _ _ _ _ _ h => by unfold x8n at h; split at h <;> first | exact ⟨_, _, _, rfl⟩ | cases h)
noncomputable abbrev xf : Fs → O2 := x1eb Try.prog [.cell 4 xjl]
noncomputable abbrev x1gg := XK call { f := x1a, u := u, nt := 139, hs := hs } xf
noncomputable abbrev x1rd := XK (R := Mem) call { f := x1a, u := u, nt := 139, hs := hs } fNil
noncomputable def xqc := x1ec x1a
noncomputable def xqd := nRs 4 xqc
noncomputable def xqe := nR xqd
noncomputable def xqf := nR xqe
noncomputable def xqg := nR xqf
noncomputable def xh6 := nR xqg
noncomputable def xqh := nL xh6
noncomputable def xqi := nR xh6
noncomputable def xqj := nRs 3 xqi
noncomputable def xbx := nR xqj
noncomputable def x1b8 := nL xbx
noncomputable def x1b9 := nR xbx
noncomputable def xqk := nR xqh
noncomputable def xql := nR xqk
noncomputable def xqm := nR xql
noncomputable def xh7 := nRs 2 xqm
noncomputable def x1ba := nL xh7
noncomputable def x1bb := nR xh7
theorem x1bc : x1rd call hs u x1b9 (fun s => some s.m) eNil = (j4 (x5u call hs u) 2 5 7 10) := by kernel_rfl
theorem x1bd : x1rd call hs u x1b8 (j4 (x5u call hs u) 2 5 7 10) eNil = (j4 (x4q call hs u) 2 5 7 87) := by kernel_rfl
theorem x1be (rec0 : AV → AV → AV → AV → Mem → Nat → O2) : x1gg call hs u xbx (j4 rec0 2 4 5 6) (setE 4 (j4 rec0 2 4 5 6) (setE 1 (j4 rec0 2 4 5 6) (setE 0 xf eNil))) = (j6 (xar call hs u rec0) 2 4 5 6 7 86) := (rg (C := xbx) (c := { f := x1a, u := u, nt := 139, hs := hs }) (f := (.tmp 86)) (ps := #[87]) (by kernel_rfl) (fun u => x1bc call hs u) (fun u => x1bd call hs u)).trans (by kernel_rfl)
theorem x1bf (rec0 : AV → AV → AV → AV → Mem → Nat → O2) : x1gg call hs u xqj (j4 rec0 2 4 5 6) (setE 1 (j4 rec0 2 4 5 6) (setE 0 xf eNil)) = (j6 (xar call hs u rec0) 2 4 5 6 7 86) := bk (by kernel_rfl) (x1be call hs u rec0)
theorem x1bg (rec0 : AV → AV → AV → AV → Mem → Nat → O2) : x1gg call hs u xqi (j4 rec0 2 4 5 6) (setE 1 (j4 rec0 2 4 5 6) (setE 0 xf eNil)) = (j5 (xr call hs u rec0) 2 4 5 6 7) := (sqN 3 (by kernel_rfl) (x1bf call hs u rec0)).trans (by kernel_rfl)
theorem x1bh (rec0 : AV → AV → AV → AV → Mem → Nat → O2) (rec1 : AV → AV → AV → AV → AV → AV → AV → AV → Mem → Nat → O2) : x1gg call hs u x1bb (j8 rec1 2 4 5 6 7 47 48 49) (setE 2 (j5 (xr call hs u rec0) 2 4 5 6 7) (setE 1 (j4 rec0 2 4 5 6) (setE 0 xf eNil))) = (j8 (x2w call hs u rec0 rec1) 2 4 5 6 7 47 48 49) := by kernel_rfl
theorem x1bi (rec0 : AV → AV → AV → AV → Mem → Nat → O2) (rec1 : AV → AV → AV → AV → AV → AV → AV → AV → Mem → Nat → O2) : x1gg call hs u x1ba (j8 (x2w call hs u rec0 rec1) 2 4 5 6 7 47 48 49) (setE 2 (j5 (xr call hs u rec0) 2 4 5 6 7) (setE 1 (j4 rec0 2 4 5 6) (setE 0 xf eNil))) = (j8 (x8c call hs u rec0 rec1) 2 4 5 6 7 47 48 49) := by kernel_rfl
theorem x1bj (rec0 : AV → AV → AV → AV → Mem → Nat → O2) (rec1 : AV → AV → AV → AV → AV → AV → AV → AV → Mem → Nat → O2) : x1gg call hs u xh7 (j8 rec1 2 4 5 6 7 47 48 49) (setE 2 (j5 (xr call hs u rec0) 2 4 5 6 7) (setE 1 (j4 rec0 2 4 5 6) (setE 0 xf eNil))) = (j8 (x8c call hs u rec0 rec1) 2 4 5 6 7 47 48 49) := sq2 (by kernel_rfl) (x1bh call hs u rec0 rec1) (x1bi call hs u rec0 rec1)
theorem x1bk (rec0 : AV → AV → AV → AV → Mem → Nat → O2) (rec1 : AV → AV → AV → AV → AV → AV → AV → AV → Mem → Nat → O2) : x1gg call hs u xqm (j8 rec1 2 4 5 6 7 47 48 49) (setE 2 (j5 (xr call hs u rec0) 2 4 5 6 7) (setE 1 (j4 rec0 2 4 5 6) (setE 0 xf eNil))) = (j8 (x8d call hs u rec0 rec1) 2 4 5 6 7 47 48 49) := (sqN 2 (by kernel_rfl) (x1bj call hs u rec0 rec1)).trans (by kernel_rfl)
theorem x1bl (rec0 : AV → AV → AV → AV → Mem → Nat → O2) : x1gg call hs u xql (j5 (xr call hs u rec0) 2 4 5 6 7) (setE 2 (j5 (xr call hs u rec0) 2 4 5 6 7) (setE 1 (j4 rec0 2 4 5 6) (setE 0 xf eNil))) = (j8 (x1y call hs u rec0 NN) 2 4 5 6 7 47 48 49) := lp (Ln := fun n => j8 (x1y call hs u rec0 n) 2 4 5 6 7 47 48 49) (by kernel_rfl) rfl fun n => (x1bk call hs u rec0 (x1y call hs u rec0 n)).trans (by kernel_rfl)
theorem x1bm (rec0 : AV → AV → AV → AV → Mem → Nat → O2) : x1gg call hs u xqk (j5 (xr call hs u rec0) 2 4 5 6 7) (setE 1 (j4 rec0 2 4 5 6) (setE 0 xf eNil)) = (j8 (x1y call hs u rec0 NN) 2 4 5 6 7 47 48 49) := bk (by kernel_rfl) (x1bl call hs u rec0)
theorem x1bn (rec0 : AV → AV → AV → AV → Mem → Nat → O2) : x1gg call hs u xqh (j5 (xr call hs u rec0) 2 4 5 6 7) (setE 1 (j4 rec0 2 4 5 6) (setE 0 xf eNil)) = (j5 (xas call hs u rec0) 2 4 5 6 7) := (sqN 1 (by kernel_rfl) (x1bm call hs u rec0)).trans (by kernel_rfl)
theorem x1bo (rec0 : AV → AV → AV → AV → Mem → Nat → O2) : x1gg call hs u xh6 (j4 rec0 2 4 5 6) (setE 1 (j4 rec0 2 4 5 6) (setE 0 xf eNil)) = (j5 (xas call hs u rec0) 2 4 5 6 7) := sq2 (by kernel_rfl) (x1bg call hs u rec0) (x1bn call hs u rec0)
theorem x1bp (rec0 : AV → AV → AV → AV → Mem → Nat → O2) : x1gg call hs u xqg (j4 rec0 2 4 5 6) (setE 1 (j4 rec0 2 4 5 6) (setE 0 xf eNil)) = (j4 (xat call hs u rec0) 2 4 5 6) := (sqN 1 (by kernel_rfl) (x1bo call hs u rec0)).trans (by kernel_rfl)
theorem x1bq (rec0 : AV → AV → AV → AV → Mem → Nat → O2) : x1gg call hs u xqf (j4 rec0 2 4 5 6) (setE 0 xf eNil) = (j4 (xat call hs u rec0) 2 4 5 6) := bk (by kernel_rfl) (x1bp call hs u rec0)
theorem x1br : x1gg call hs u xqe xf (setE 0 xf eNil) = (j4 (x14 call hs u NN) 2 4 5 6) := lp (Ln := fun n => j4 (x14 call hs u n) 2 4 5 6) (by kernel_rfl) rfl fun n => (x1bq call hs u (x14 call hs u n)).trans (by kernel_rfl)
theorem x1bs : x1gg call hs u xqd xf eNil = (j4 (x14 call hs u NN) 2 4 5 6) := bk (by kernel_rfl) (x1br call hs u)
theorem x1bt : x1gg call hs u xqc xf eNil = (j2 (xf2 call hs u) 0 1) := (sqN 4 (by kernel_rfl) (x1bs call hs u)).trans (by kernel_rfl)
theorem xsz : FL x1a x69 := le2 (fn := Try.f115) (by kernel_rfl) (by kernel_rfl) (by kernel_rfl) (by kernel_rfl) (fun call hs t0 t1 m => (congrFun (x1bt call hs m.next) _).trans (by kernel_rfl)) (fun _ _ _ _ _ h => by unfold x69 at h; split at h <;> first | exact ⟨_, _, rfl⟩ | cases h)
noncomputable abbrev x2x : Fs → O2 := x1eb Try.prog []
noncomputable abbrev x1js := XK call { f := x6c, u := u, nt := 53, hs := hs } x2x
noncomputable def xqn := x1ec x6c
noncomputable def xqo := nR xqn
noncomputable def xqp := nR xqo
noncomputable def xqq := nR xqp
noncomputable def xh8 := nRs 2 xqq
noncomputable def x1bu := nL xh8
noncomputable def x1bv := nR xh8
theorem x1bw (rec0 : AV → AV → AV → AV → AV → Mem → Nat → O2) : x1js call hs u x1bv (j5 rec0 0 1 3 9 10) (setE 0 x2x eNil) = (j5 (xau call hs u rec0) 0 1 3 9 10) := by kernel_rfl
theorem x1bx (rec0 : AV → AV → AV → AV → AV → Mem → Nat → O2) : x1js call hs u x1bu (j5 (xau call hs u rec0) 0 1 3 9 10) (setE 0 x2x eNil) = (j5 (xf3 call hs u rec0) 0 1 3 9 10) := by kernel_rfl
theorem x1by (rec0 : AV → AV → AV → AV → AV → Mem → Nat → O2) : x1js call hs u xh8 (j5 rec0 0 1 3 9 10) (setE 0 x2x eNil) = (j5 (xf3 call hs u rec0) 0 1 3 9 10) := sq2 (by kernel_rfl) (x1bw call hs u rec0) (x1bx call hs u rec0)
theorem x1bz (rec0 : AV → AV → AV → AV → AV → Mem → Nat → O2) : x1js call hs u xqq (j5 rec0 0 1 3 9 10) (setE 0 x2x eNil) = (j5 (xjb call hs u rec0) 0 1 3 9 10) := (sqN 2 (by kernel_rfl) (x1by call hs u rec0)).trans (by kernel_rfl)
theorem x1c0 : x1js call hs u xqp x2x (setE 0 x2x eNil) = (j5 (x5w call hs u NN) 0 1 3 9 10) := lp (Ln := fun n => j5 (x5w call hs u n) 0 1 3 9 10) (by kernel_rfl) rfl fun n => (x1bz call hs u (x5w call hs u n)).trans (by kernel_rfl)
theorem x1c1 : x1js call hs u xqo x2x eNil = (j5 (x5w call hs u NN) 0 1 3 9 10) := bk (by kernel_rfl) (x1c0 call hs u)
theorem x1c2 : x1js call hs u xqn x2x eNil = (j4 (xjc call hs u) 0 1 2 3) := (sqN 1 (by kernel_rfl) (x1c1 call hs u)).trans (by kernel_rfl)
theorem xt3 : FL x6c xc0 := le4 (fn := Try.f116) (by kernel_rfl) (by kernel_rfl) (by kernel_rfl) (by kernel_rfl) (fun call hs t0 t1 t2 t3 m => (congrFun (x1c2 call hs m.next) _).trans (by kernel_rfl)) (fun _ _ _ _ _ h => by unfold xc0 at h; split at h <;> first | exact ⟨_, _, _, _, rfl⟩ | cases h)
noncomputable abbrev xqr : Fs → O2 := x1eb Try.prog [.tmp 2]
noncomputable abbrev x1ul := XK call { f := x7r, u := u, nt := 5, hs := hs } xqr
noncomputable def x1c3 := x1ec x7r
theorem x1c4 : x1ul call hs u x1c3 xqr eNil = (j1 (xjd call hs u) 0) := by kernel_rfl
theorem xvc : FL x7r xd5 := le1 (fn := Try.f118) (by kernel_rfl) (by kernel_rfl) (by kernel_rfl) (by kernel_rfl) (fun call hs t0 m => (congrFun (x1c4 call hs m.next) _).trans (by kernel_rfl)) (fun _ _ _ _ _ h => by unfold xd5 at h; split at h <;> first | exact ⟨_, rfl⟩ | cases h)
noncomputable abbrev xby : Fs → O2 := x1eb Try.prog [.tmp 4, .tmp 5]
noncomputable abbrev x1i4 := XK call { f := x92, u := u, nt := 85, hs := hs } xby
noncomputable def xqs := x1ec x92
noncomputable def xh9 := nRs 4 xqs
noncomputable def xqt := nL xh9
noncomputable def x1c5 := nR xh9
noncomputable def xqu := nR xqt
noncomputable def xqv := nR xqu
noncomputable def xqw := nR xqv
noncomputable def xha := nRs 2 xqw
noncomputable def x1c6 := nL xha
noncomputable def x1c7 := nR xha
theorem x1c8 : x1i4 call hs u x1c5 xby eNil = (j1 (x1z call hs u) 7) := by kernel_rfl
theorem x1c9 (rec0 : AV → AV → AV → AV → AV → Mem → Nat → O2) : x1i4 call hs u x1c7 (j5 rec0 6 7 38 39 40) (setE 0 (j1 (x1z call hs u) 7) eNil) = (j5 (xav call hs u rec0) 6 7 38 39 40) := by kernel_rfl
theorem x1ca (rec0 : AV → AV → AV → AV → AV → Mem → Nat → O2) : x1i4 call hs u x1c6 (j5 (xav call hs u rec0) 6 7 38 39 40) (setE 0 (j1 (x1z call hs u) 7) eNil) = (j5 (xf4 call hs u rec0) 6 7 38 39 40) := by kernel_rfl
theorem x1cb (rec0 : AV → AV → AV → AV → AV → Mem → Nat → O2) : x1i4 call hs u xha (j5 rec0 6 7 38 39 40) (setE 0 (j1 (x1z call hs u) 7) eNil) = (j5 (xf4 call hs u rec0) 6 7 38 39 40) := sq2 (by kernel_rfl) (x1c9 call hs u rec0) (x1ca call hs u rec0)
theorem x1cc (rec0 : AV → AV → AV → AV → AV → Mem → Nat → O2) : x1i4 call hs u xqw (j5 rec0 6 7 38 39 40) (setE 0 (j1 (x1z call hs u) 7) eNil) = (j5 (xje call hs u rec0) 6 7 38 39 40) := (sqN 2 (by kernel_rfl) (x1cb call hs u rec0)).trans (by kernel_rfl)
theorem x1cd : x1i4 call hs u xqv (j1 (x1z call hs u) 7) (setE 0 (j1 (x1z call hs u) 7) eNil) = (j5 (x5x call hs u NN) 6 7 38 39 40) := lp (Ln := fun n => j5 (x5x call hs u n) 6 7 38 39 40) (by kernel_rfl) rfl fun n => (x1cc call hs u (x5x call hs u n)).trans (by kernel_rfl)
theorem x1ce : x1i4 call hs u xqu (j1 (x1z call hs u) 7) eNil = (j5 (x5x call hs u NN) 6 7 38 39 40) := bk (by kernel_rfl) (x1cd call hs u)
theorem x1cf : x1i4 call hs u xqt (j1 (x1z call hs u) 7) eNil = (j3 (xf5 call hs u) 3 6 7) := (sqN 1 (by kernel_rfl) (x1ce call hs u)).trans (by kernel_rfl)
theorem x1cg : x1i4 call hs u xh9 xby eNil = (j3 (xf5 call hs u) 3 6 7) := sq2 (by kernel_rfl) (x1c8 call hs u) (x1cf call hs u)
theorem x1ch : x1i4 call hs u xqs xby eNil = (j2 (xjf call hs u) 0 1) := (sqN 4 (by kernel_rfl) (x1cg call hs u)).trans (by kernel_rfl)
theorem xvd : FL x92 xd6 := le2 (fn := Try.f119) (by kernel_rfl) (by kernel_rfl) (by kernel_rfl) (by kernel_rfl) (fun call hs t0 t1 m => (congrFun (x1ch call hs m.next) _).trans (by kernel_rfl)) (fun _ _ _ _ _ h => by unfold xd6 at h; split at h <;> first | exact ⟨_, _, rfl⟩ | cases h)
noncomputable abbrev xj : Fs → O2 := x1eb Try.prog []
noncomputable abbrev x1gs := XK call { f := x2b, u := u, nt := 55, hs := hs } xj
noncomputable def xqx := x1ec x2b
noncomputable def xqy := nRs 2 xqx
noncomputable def xqz := nR xqy
noncomputable def xr0 := nR xqz
noncomputable def xhb := nRs 2 xr0
noncomputable def xr1 := nL xhb
noncomputable def x1ci := nR xhb
noncomputable def xr2 := nR xr1
noncomputable def xr3 := nRs 2 xr2
noncomputable def xr4 := nR xr3
noncomputable def xr5 := nR xr4
noncomputable def xhc := nRs 2 xr5
noncomputable def x1cj := nL xhc
noncomputable def x1ck := nR xhc
theorem x1cl (rec0 : AV → AV → AV → AV → AV → AV → Mem → Nat → O2) : x1gs call hs u x1ci (j6 rec0 0 1 2 4 9 10) (setE 0 xj eNil) = (j6 (xa call hs u rec0) 0 1 2 4 9 10) := by kernel_rfl
theorem x1cm (rec0 : AV → AV → AV → AV → AV → AV → Mem → Nat → O2) (rec1 : AV → AV → AV → AV → AV → AV → AV → AV → AV → AV → Mem → Nat → O2) : x1gs call hs u x1ck (j10 rec1 0 1 2 4 5 6 9 10 16 17) (setE 2 (j6 (xa call hs u rec0) 0 1 2 4 9 10) (setE 1 (j6 (xa call hs u rec0) 0 1 2 4 9 10) (setE 0 xj eNil))) = (j10 (x3v call hs u rec0 rec1) 0 1 2 4 5 6 9 10 16 17) := by kernel_rfl
theorem x1cn (rec0 : AV → AV → AV → AV → AV → AV → Mem → Nat → O2) (rec1 : AV → AV → AV → AV → AV → AV → AV → AV → AV → AV → Mem → Nat → O2) : x1gs call hs u x1cj (j10 (x3v call hs u rec0 rec1) 0 1 2 4 5 6 9 10 16 17) (setE 2 (j6 (xa call hs u rec0) 0 1 2 4 9 10) (setE 1 (j6 (xa call hs u rec0) 0 1 2 4 9 10) (setE 0 xj eNil))) = (j10 (x8e call hs u rec0 rec1) 0 1 2 4 5 6 9 10 16 17) := by kernel_rfl
theorem x1co (rec0 : AV → AV → AV → AV → AV → AV → Mem → Nat → O2) (rec1 : AV → AV → AV → AV → AV → AV → AV → AV → AV → AV → Mem → Nat → O2) : x1gs call hs u xhc (j10 rec1 0 1 2 4 5 6 9 10 16 17) (setE 2 (j6 (xa call hs u rec0) 0 1 2 4 9 10) (setE 1 (j6 (xa call hs u rec0) 0 1 2 4 9 10) (setE 0 xj eNil))) = (j10 (x8e call hs u rec0 rec1) 0 1 2 4 5 6 9 10 16 17) := sq2 (by kernel_rfl) (x1cm call hs u rec0 rec1) (x1cn call hs u rec0 rec1)
theorem x1cp (rec0 : AV → AV → AV → AV → AV → AV → Mem → Nat → O2) (rec1 : AV → AV → AV → AV → AV → AV → AV → AV → AV → AV → Mem → Nat → O2) : x1gs call hs u xr5 (j10 rec1 0 1 2 4 5 6 9 10 16 17) (setE 2 (j6 (xa call hs u rec0) 0 1 2 4 9 10) (setE 1 (j6 (xa call hs u rec0) 0 1 2 4 9 10) (setE 0 xj eNil))) = (j10 (x5y call hs u rec0 rec1) 0 1 2 4 5 6 9 10 16 17) := (sqN 2 (by kernel_rfl) (x1co call hs u rec0 rec1)).trans (by kernel_rfl)
theorem x1cq (rec0 : AV → AV → AV → AV → AV → AV → Mem → Nat → O2) : x1gs call hs u xr4 (j6 (xa call hs u rec0) 0 1 2 4 9 10) (setE 2 (j6 (xa call hs u rec0) 0 1 2 4 9 10) (setE 1 (j6 (xa call hs u rec0) 0 1 2 4 9 10) (setE 0 xj eNil))) = (j10 (x15 call hs u rec0 NN) 0 1 2 4 5 6 9 10 16 17) := lp (Ln := fun n => j10 (x15 call hs u rec0 n) 0 1 2 4 5 6 9 10 16 17) (by kernel_rfl) rfl fun n => (x1cp call hs u rec0 (x15 call hs u rec0 n)).trans (by kernel_rfl)
theorem x1cr (rec0 : AV → AV → AV → AV → AV → AV → Mem → Nat → O2) : x1gs call hs u xr3 (j6 (xa call hs u rec0) 0 1 2 4 9 10) (setE 1 (j6 (xa call hs u rec0) 0 1 2 4 9 10) (setE 0 xj eNil)) = (j10 (x15 call hs u rec0 NN) 0 1 2 4 5 6 9 10 16 17) := bk (by kernel_rfl) (x1cq call hs u rec0)
theorem x1cs (rec0 : AV → AV → AV → AV → AV → AV → Mem → Nat → O2) : x1gs call hs u xr2 (j6 (xa call hs u rec0) 0 1 2 4 9 10) (setE 1 (j6 (xa call hs u rec0) 0 1 2 4 9 10) (setE 0 xj eNil)) = (j6 (x5z call hs u rec0) 0 1 2 4 9 10) := (sqN 2 (by kernel_rfl) (x1cr call hs u rec0)).trans (by kernel_rfl)
theorem x1ct (rec0 : AV → AV → AV → AV → AV → AV → Mem → Nat → O2) : x1gs call hs u xr1 (j6 (xa call hs u rec0) 0 1 2 4 9 10) (setE 0 xj eNil) = (j6 (x5z call hs u rec0) 0 1 2 4 9 10) := bk (by kernel_rfl) (x1cs call hs u rec0)
theorem x1cu (rec0 : AV → AV → AV → AV → AV → AV → Mem → Nat → O2) : x1gs call hs u xhb (j6 rec0 0 1 2 4 9 10) (setE 0 xj eNil) = (j6 (x5z call hs u rec0) 0 1 2 4 9 10) := sq2 (by kernel_rfl) (x1cl call hs u rec0) (x1ct call hs u rec0)
theorem x1cv (rec0 : AV → AV → AV → AV → AV → AV → Mem → Nat → O2) : x1gs call hs u xr0 (j6 rec0 0 1 2 4 9 10) (setE 0 xj eNil) = (j6 (x60 call hs u rec0) 0 1 2 4 9 10) := (sqN 2 (by kernel_rfl) (x1cu call hs u rec0)).trans (by kernel_rfl)
theorem x1cw : x1gs call hs u xqz xj (setE 0 xj eNil) = (j6 (x16 call hs u NN) 0 1 2 4 9 10) := lp (Ln := fun n => j6 (x16 call hs u n) 0 1 2 4 9 10) (by kernel_rfl) rfl fun n => (x1cv call hs u (x16 call hs u n)).trans (by kernel_rfl)
theorem x1cx : x1gs call hs u xqy xj eNil = (j6 (x16 call hs u NN) 0 1 2 4 9 10) := bk (by kernel_rfl) (x1cw call hs u)
theorem x1cy : x1gs call hs u xqx xj eNil = (j3 (xf6 call hs u) 0 1 2) := (sqN 2 (by kernel_rfl) (x1cx call hs u)).trans (by kernel_rfl)
theorem xve : FL x2b x7s := le3 (fn := Try.f120) (by kernel_rfl) (by kernel_rfl) (by kernel_rfl) (by kernel_rfl) (fun call hs t0 t1 t2 m => (congrFun (x1cy call hs m.next) _).trans (by kernel_rfl)) (fun _ _ _ _ _ h => by unfold x7s at h; split at h <;> first | exact ⟨_, _, _, rfl⟩ | cases h)
noncomputable abbrev x3y : Fs → O2 := x1eb Try.prog [.tmp 4]
noncomputable abbrev x1h9 := XK call { f := x1e, u := u, nt := 48, hs := hs } x3y
noncomputable def xr6 := x1ec x1e
noncomputable def xhd := nR xr6
noncomputable def x1cz := nL xhd
noncomputable def xr7 := nR xhd
noncomputable def xhe := nR xr7
noncomputable def x1d0 := nL xhe
noncomputable def xr8 := nR xhe
noncomputable def xhf := nRs 2 xr8
noncomputable def xr9 := nL xhf
noncomputable def x1d1 := nR xhf
noncomputable def xra := nR xr9
noncomputable def x1d2 := nR xra
theorem x1d3 : x1h9 call hs u x1d1 x3y eNil = (j1 (x3w call hs u) 7) := by kernel_rfl
theorem x1d4 (rec0 : AV → AV → Mem → Nat → O2) : x1h9 call hs u x1d2 (j2 rec0 7 8) (setE 0 (j1 (x3w call hs u) 7) eNil) = (j2 (xax call hs u rec0) 7 8) := by kernel_rfl
theorem x1d5 : x1h9 call hs u xra (j1 (x3w call hs u) 7) (setE 0 (j1 (x3w call hs u) 7) eNil) = (j2 (x1n call hs u NN) 7 8) := lp (Ln := fun n => j2 (x1n call hs u n) 7 8) (by kernel_rfl) rfl fun n => (x1d4 call hs u (x1n call hs u n)).trans (by kernel_rfl)
theorem x1d6 : x1h9 call hs u xr9 (j1 (x3w call hs u) 7) eNil = (j2 (x1n call hs u NN) 7 8) := bk (by kernel_rfl) (x1d5 call hs u)
theorem x1d7 : x1h9 call hs u xhf x3y eNil = (j2 (x1n call hs u NN) 7 8) := sq2 (by kernel_rfl) (x1d3 call hs u) (x1d6 call hs u)
theorem x1d8 : x1h9 call hs u xr8 x3y eNil = (j2 (xay call hs u) 0 6) := (sqN 2 (by kernel_rfl) (x1d7 call hs u)).trans (by kernel_rfl)
theorem x1d9 : x1h9 call hs u x1d0 (j2 (xay call hs u) 0 6) eNil = (j3 (xaz call hs u) 0 5 6) := by kernel_rfl
theorem x1da : x1h9 call hs u xhe x3y eNil = (j3 (xaz call hs u) 0 5 6) := sq2 (by kernel_rfl) (x1d8 call hs u) (x1d9 call hs u)
theorem x1db : x1h9 call hs u xr7 x3y eNil = (j2 (xb0 call hs u) 0 1) := (sqN 1 (by kernel_rfl) (x1da call hs u)).trans (by kernel_rfl)
theorem x1dc : x1h9 call hs u x1cz (j2 (xb0 call hs u) 0 1) eNil = (j2 (xb1 call hs u) 0 1) := by kernel_rfl
theorem x1dd : x1h9 call hs u xhd x3y eNil = (j2 (xb1 call hs u) 0 1) := sq2 (by kernel_rfl) (x1db call hs u) (x1dc call hs u)
theorem x1de : x1h9 call hs u xr6 x3y eNil = (j2 (xf7 call hs u) 0 1) := (sqN 1 (by kernel_rfl) (x1dd call hs u)).trans (by kernel_rfl)
theorem xvf : FL x1e x7t := le2 (fn := Try.f121) (by kernel_rfl) (by kernel_rfl) (by kernel_rfl) (by kernel_rfl) (fun call hs t0 t1 m => (congrFun (x1de call hs m.next) _).trans (by kernel_rfl)) (fun _ _ _ _ _ h => by unfold x7t at h; split at h <;> first | exact ⟨_, _, rfl⟩ | cases h)
noncomputable abbrev xrb : Fs → O2 := x1eb Try.prog []
noncomputable abbrev x1um := XK call { f := x19, u := u, nt := 18, hs := hs } xrb
noncomputable def x1df := x1ec x19
theorem x1dg : x1um call hs u x1df xrb eNil = (j4 (x8f call hs u) 0 1 2 3) := by kernel_rfl
theorem xsy : FL x19 x8m := le4 (fn := Try.f122) (by kernel_rfl) (by kernel_rfl) (by kernel_rfl) (by kernel_rfl) (fun call hs t0 t1 t2 t3 m => (congrFun (x1dg call hs m.next) _).trans (by kernel_rfl)) (fun _ _ _ _ _ h => by unfold x8m at h; split at h <;> first | exact ⟨_, _, _, _, rfl⟩ | cases h)
noncomputable abbrev xrc : Fs → O2 := x1eb Try.prog [.tmp 4]
noncomputable abbrev x1un := XK call { f := x3z, u := u, nt := 6, hs := hs } xrc
noncomputable def x1dh := x1ec x3z
theorem x1di : x1un call hs u x1dh xrc eNil = (j2 (xf8 call hs u) 0 1) := by kernel_rfl
theorem xt0 : FL x3z x6a := le2 (fn := Try.f123) (by kernel_rfl) (by kernel_rfl) (by kernel_rfl) (by kernel_rfl) (fun call hs t0 t1 m => (congrFun (x1di call hs m.next) _).trans (by kernel_rfl)) (fun _ _ _ _ _ h => by unfold x6a at h; split at h <;> first | exact ⟨_, _, rfl⟩ | cases h)
noncomputable abbrev xrd : Fs → O2 := x1eb Try.prog [.tmp 2]
noncomputable abbrev x1uo := XK call { f := x7u, u := u, nt := 5, hs := hs } xrd
noncomputable def x1dj := x1ec x7u
theorem x1dk : x1uo call hs u x1dj xrd eNil = (j1 (xjg call hs u) 0) := by kernel_rfl
theorem xvg : FL x7u xd7 := le1 (fn := Try.f124) (by kernel_rfl) (by kernel_rfl) (by kernel_rfl) (by kernel_rfl) (fun call hs t0 m => (congrFun (x1dk call hs m.next) _).trans (by kernel_rfl)) (fun _ _ _ _ _ h => by unfold xd7 at h; split at h <;> first | exact ⟨_, rfl⟩ | cases h)
noncomputable abbrev xre : Fs → O2 := x1eb Try.prog [.tmp 4, .tmp 5]
noncomputable abbrev x1up := XK call { f := x49, u := u, nt := 30, hs := hs } xre
noncomputable def x1dl := x1ec x49
theorem x1dm : x1up call hs u x1dl xre eNil = (j2 (xjh call hs u) 0 1) := by kernel_rfl
theorem xvh : FL x49 xd8 := le2 (fn := Try.f125) (by kernel_rfl) (by kernel_rfl) (by kernel_rfl) (by kernel_rfl) (fun call hs t0 t1 m => (congrFun (x1dm call hs m.next) _).trans (by kernel_rfl)) (fun _ _ _ _ _ h => by unfold xd8 at h; split at h <;> first | exact ⟨_, _, rfl⟩ | cases h)
noncomputable abbrev xy : Fs → O2 := x1eb Try.prog []
noncomputable abbrev x1hj := XK call { f := x2y, u := u, nt := 76, hs := hs } xy
noncomputable def xrf := x1ec x2y
noncomputable def xrg := nR xrf
noncomputable def xrh := nR xrg
noncomputable def xri := nR xrh
noncomputable def xhg := nRs 2 xri
noncomputable def xrj := nL xhg
noncomputable def x1dn := nR xhg
noncomputable def xrk := nR xrj
noncomputable def xhh := nRs 3 xrk
noncomputable def x1do := nL xhh
noncomputable def x1dp := nR xhh
theorem x1dq (rec0 : AV → AV → AV → AV → AV → AV → Mem → Nat → O2) : x1hj call hs u x1dn (j6 rec0 0 1 2 14 15 16) (setE 0 xy eNil) = (j6 (x17 call hs u rec0) 0 1 2 14 15 16) := by kernel_rfl
theorem x1dr (rec0 : AV → AV → AV → AV → AV → AV → Mem → Nat → O2) : x1hj call hs u x1dp (j6 (x17 call hs u rec0) 0 1 2 14 15 16) (setE 1 (j6 (x17 call hs u rec0) 0 1 2 14 15 16) (setE 0 xy eNil)) = (j7 (x61 call hs u rec0) 0 1 2 7 14 15 16) := by kernel_rfl
theorem x1ds (rec0 : AV → AV → AV → AV → AV → AV → Mem → Nat → O2) : x1hj call hs u x1do (j7 (x61 call hs u rec0) 0 1 2 7 14 15 16) (setE 1 (j6 (x17 call hs u rec0) 0 1 2 14 15 16) (setE 0 xy eNil)) = (j9 (x62 call hs u rec0) 0 1 2 5 6 7 14 15 16) := by kernel_rfl
theorem x1dt (rec0 : AV → AV → AV → AV → AV → AV → Mem → Nat → O2) : x1hj call hs u xhh (j6 (x17 call hs u rec0) 0 1 2 14 15 16) (setE 1 (j6 (x17 call hs u rec0) 0 1 2 14 15 16) (setE 0 xy eNil)) = (j9 (x62 call hs u rec0) 0 1 2 5 6 7 14 15 16) := sq2 (by kernel_rfl) (x1dr call hs u rec0) (x1ds call hs u rec0)
theorem x1du (rec0 : AV → AV → AV → AV → AV → AV → Mem → Nat → O2) : x1hj call hs u xrk (j6 (x17 call hs u rec0) 0 1 2 14 15 16) (setE 1 (j6 (x17 call hs u rec0) 0 1 2 14 15 16) (setE 0 xy eNil)) = (j6 (x8g call hs u rec0) 0 1 2 14 15 16) := (sqN 3 (by kernel_rfl) (x1dt call hs u rec0)).trans (by kernel_rfl)
theorem x1dv (rec0 : AV → AV → AV → AV → AV → AV → Mem → Nat → O2) : x1hj call hs u xrj (j6 (x17 call hs u rec0) 0 1 2 14 15 16) (setE 0 xy eNil) = (j6 (x8g call hs u rec0) 0 1 2 14 15 16) := bk (by kernel_rfl) (x1du call hs u rec0)
theorem x1dw (rec0 : AV → AV → AV → AV → AV → AV → Mem → Nat → O2) : x1hj call hs u xhg (j6 rec0 0 1 2 14 15 16) (setE 0 xy eNil) = (j6 (x8g call hs u rec0) 0 1 2 14 15 16) := sq2 (by kernel_rfl) (x1dq call hs u rec0) (x1dv call hs u rec0)
theorem x1dx (rec0 : AV → AV → AV → AV → AV → AV → Mem → Nat → O2) : x1hj call hs u xri (j6 rec0 0 1 2 14 15 16) (setE 0 xy eNil) = (j6 (xb2 call hs u rec0) 0 1 2 14 15 16) := (sqN 2 (by kernel_rfl) (x1dw call hs u rec0)).trans (by kernel_rfl)
theorem x1dy : x1hj call hs u xrh xy (setE 0 xy eNil) = (j6 (x18 call hs u NN) 0 1 2 14 15 16) := lp (Ln := fun n => j6 (x18 call hs u n) 0 1 2 14 15 16) (by kernel_rfl) rfl fun n => (x1dx call hs u (x18 call hs u n)).trans (by kernel_rfl)
theorem x1dz : x1hj call hs u xrg xy eNil = (j6 (x18 call hs u NN) 0 1 2 14 15 16) := bk (by kernel_rfl) (x1dy call hs u)
theorem x1e0 : x1hj call hs u xrf xy eNil = (j3 (xf9 call hs u) 0 1 2) := (sqN 1 (by kernel_rfl) (x1dz call hs u)).trans (by kernel_rfl)
theorem xsw : FL x2y x67 := le3 (fn := Try.f126) (by kernel_rfl) (by kernel_rfl) (by kernel_rfl) (by kernel_rfl) (fun call hs t0 t1 t2 m => (congrFun (x1e0 call hs m.next) _).trans (by kernel_rfl)) (fun _ _ _ _ _ h => by unfold x67 at h; split at h <;> first | exact ⟨_, _, _, rfl⟩ | cases h)
noncomputable abbrev xrl : Fs → O2 := x1eb Try.prog [.tmp 4, .tmp 5]
noncomputable abbrev x1uq := XK call { f := x7v, u := u, nt := 17, hs := hs } xrl
noncomputable def x1e1 := x1ec x7v
theorem x1e2 : x1uq call hs u x1e1 xrl eNil = (j2 (xji call hs u) 0 1) := by kernel_rfl
theorem xvi : FL x7v xd9 := le2 (fn := Try.f127) (by kernel_rfl) (by kernel_rfl) (by kernel_rfl) (by kernel_rfl) (fun call hs t0 t1 m => (congrFun (x1e2 call hs m.next) _).trans (by kernel_rfl)) (fun _ _ _ _ _ h => by unfold xd9 at h; split at h <;> first | exact ⟨_, _, rfl⟩ | cases h)
noncomputable abbrev xrm : Fs → O2 := x1eb Try.prog [.tmp 4, .tmp 5]
noncomputable abbrev x1ur := XK call { f := x6b, u := u, nt := 51, hs := hs } xrm
noncomputable def x1e3 := x1ec x6b
theorem x1e4 : x1ur call hs u x1e3 xrm eNil = (j2 (xjj call hs u) 0 1) := by kernel_rfl
theorem xt2 : FL x6b xbz := le2 (fn := Try.f128) (by kernel_rfl) (by kernel_rfl) (by kernel_rfl) (by kernel_rfl) (fun call hs t0 t1 m => (congrFun (x1e4 call hs m.next) _).trans (by kernel_rfl)) (fun _ _ _ _ _ h => by unfold xbz at h; split at h <;> first | exact ⟨_, _, rfl⟩ | cases h)
end Go.Ix
