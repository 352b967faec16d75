/- An evaluator of Go functions on plain data, its soundness, and plain laws on what the functions compute, part 5 (conditions: as each lemma tells). -/
import Derived.Test.YthpnoncibnengaaD
import Derived.Test.YthpnoncibnengaaRows
set_option linter.unusedSimpArgs false
set_option linter.unusedVariables false
namespace KF
open Go Go.Proofs Go.Proofs.Try
def GT : List (Nat × Ty) := [(3, int), (4, .b), (5, Jp), (22, (.sl Jp)), (24, (.sl (.sl int))), (25, (.sl int)), (27, Ja), (30, Kc), (32, (.sl Rd)), (54, Mf), (62, Rd)]
def GA : List (Nat × Ty × Nat) := []
theorem HO : ((GT.all fun x => Lc Try.prog x.2 x.1) && (GA.all fun x => Cz Try.prog x.1 x.2.1 x.2.2)) = true := by kernel_rfl
theorem XF : Try.prog.follows .mixedOrders = true := by kernel_rfl
noncomputable abbrev II : Sh := TO
noncomputable section
abbrev WP : Program := Try.prog
abbrev WF := List (Nat × Qb)
abbrev WL := List (Nat × Jb)
abbrev WG (z : Bool) (fs : WF) (m : List (Nat × Nat)) (v l : List Nat) : Jd := ⟨GT, fs, m, z, GA, v, l⟩
def WO (fs : WF) : Prop := ∀ z m v l, Fi WP II (WG z fs m v l)
theorem DT : WO [] := fun _ _ _ _ => KG HO
theorem wc {f : Nat} {s : Qb} {fs : WF} (e : WO fs) (h : Sm WP II f s) : WO ((f, s) :: fs) := fun z m v l => Fi.cons h (e z m v l)
theorem CT {f : Nat} {s : Qb} {fs : WF} (e : WO fs) (h : Ua fs f = some s) : Sm WP II f s := (e true [] [] []).fn f s h
theorem Sg {z : Bool} {fs : WF} {m : List (Nat × Nat)} {v l : List Nat} {L : WL} {fn : Func} {i : Nat} (r : Nat) {ls : Jb} {R : ls.inT.X → Option (ls.inT.X ⊕ (ls.outT.X ⊕ ls.retT.X))}
 (h3 : ls.F = Dc R) (h1 : Vg (lp fn i) = some r := by kernel_rfl) (h2 : (Ua L r) = some ls := by kernel_rfl) (h4 : ∀ x, Ir (WG z fs m v l) L ls (lp fn i) x = R x := by intro _; kernel_rfl) : Bc (WG z fs m v l) L (lp fn i) := RH h1 h2 h3 h4
theorem Sk {f : Nat} {fn : Func} {pt rt : Ty} {fr : List Bool} {F : T pt → Option (T rt)} {fs : WF} (e : WO fs) (hf : WP.funcs[f]? = some fn)
 (hb : (fn.body.isSome && !(fn.name == "runtime.NumGoroutine") && Nat.ble pt.npar fn.ntmps && Nat.beq (Wc (fn.body.getD .skip)).length 0) = true := by kernel_rfl)
 (hF : ∀ x, LG (WG true fs [] [] []) [] fn pt rt fr x = F x := by intro _; kernel_rfl) : WO ((f, .pu pt rt fr F) :: fs) := wc e (RA (e _ _ _ _) XF hf hb Hb hF)
theorem Rm {k : Nat} {L : WL} {m : List (Nat × Nat)} {v l : List Nat} {f : Nat} {fn : Func} {pt rt : Ty} {fr : List Bool} {F : T pt → Option (T rt)} {fs : WF} (e : WO fs) (hf : WP.funcs[f]? = some fn) (hL : ∀ i, i < k → Bc (WG true fs m v l) L (lp fn i))
 (hb : (fn.body.isSome && !(fn.name == "runtime.NumGoroutine") && Nat.ble pt.npar fn.ntmps && Nat.beq (Wc (fn.body.getD .skip)).length k) = true := by kernel_rfl)
 (hF : ∀ x, LG (WG true fs m v l) L fn pt rt fr x = F x := by intro _; kernel_rfl) : WO ((f, .pu pt rt fr F) :: fs) := wc e (RA (e _ _ _ _) XF hf hb hL hF)
theorem UA {k : Nat} {L : WL} {m : List (Nat × Nat)} {v l : List Nat} {f : Nat} {fn : Func} {vw cv : Bool} {τ pt rt : Ty} {fr : List Bool} {F : T τ → T pt → Option (T τ × T rt)} {fs : WF} (e : WO fs) (hf : WP.funcs[f]? = some fn) (hL : ∀ i, i < k → Bc (WG false fs m v l) L (lp fn i))
 (hb : (fn.body.isSome && !(fn.name == "runtime.NumGoroutine") && Nat.ble (pt.npar + 1) fn.ntmps && Nat.beq (Wc (fn.body.getD .skip)).length k) = true := by kernel_rfl)
 (hF : ∀ x0 x, IB (WG false fs m v l) L fn vw cv τ pt rt fr x0 x = F x0 x := by intro _ _; kernel_rfl) : WO ((f, .bx vw cv τ pt rt fr F) :: fs) := wc e (BI (e _ _ _ _) rfl XF hf hb hL hF)
theorem VO {k : Nat} {L : WL} {m : List (Nat × Nat)} {v l : List Nat} {f : Nat} {fn : Func} {pt τ : Ty} {F : T pt → Option (T τ)} {fs : WF} (e : WO fs) (hf : WP.funcs[f]? = some fn) (hL : ∀ i, i < k → Bc (WG true fs m v l) L (lp fn i))
 (hb : (fn.body.isSome && !(fn.name == "runtime.NumGoroutine") && Nat.ble pt.npar fn.ntmps && Nat.beq (Wc (fn.body.getD .skip)).length k) = true := by kernel_rfl)
 (hF : ∀ x, JB (WG true fs m v l) L fn pt τ x = F x := by intro _; kernel_rfl) : WO ((f, .nw pt τ F) :: fs) := wc e (CI (e _ _ _ _) XF hf hb hL hF)
abbrev Ec : TD := .data int
abbrev Xq : TD := .own 200001 Rd true
abbrev Zo : Ty := .p .b .u
abbrev Rp : TD := .data Ja
abbrev Kn : Ty := .p int .u
abbrev Es : Ty := .p Ja .u
abbrev Il : Ty := .sl int
abbrev Jn : TD := .pr (.own 200001 Il true) (.pr (.own 200002 int true) .un)
abbrev Wq : TD := .pr (.data (.sl Il)) (.pr (.data Il) .un)
abbrev WK : TD := .pr (.own 200003 Il true) (.pr (.own 200004 int true) .un)
abbrev Bt : Ty := .p Ja Zo
abbrev Sr : Ty := .p Kc .u
abbrev Kp : TD := .ptr 2 []
abbrev Lp : TD := .ptr 3 []
abbrev YE : TD := .pr (.own 200003 int true) .un
abbrev Zn : TD := .data .b
abbrev PT : Qb := .pu (.p (.sl Jp) .u) Zo [true] (fun x => Fo x.1)
abbrev KM : WF := (4, PT) :: ([] : WF)
theorem FT : WO KM := Sk DT func4
abbrev ZR : Qb := .nw (.p (.sl Jp) .u) Mf (fun x => Aq x.1)
abbrev DM : WF := (24, ZR) :: KM
def VG : Jb := ⟨32, ⟨[(0, (.data (.sl Jp))), (3, Ec), (4, Ec)], []⟩, 0, ⟨[(0, (.data (.sl Jp))), (3, Ec)], []⟩, ⟨[], []⟩, Hm⟩
def WQ : WL := [(3, VG)]
theorem EN : Bc (WG true KM [] [] []) WQ (lp f24 0) := Sg 3 (ls := VG) rfl
theorem MP : WO DM := VO FT func24 (Tb EN Hb)
abbrev PR : Qb := .nw (.p (.sl Jp) Kn) Mf (fun x => Pk x.1 x.2.1)
abbrev JI : WF := (14, PR) :: DM
theorem BP : WO JI := VO (L := []) (m := []) (v := []) (l := []) MP func14 Hb
abbrev KS : Qb := .pu .u Es [true] (fun x => Xm)
abbrev HM : WF := (34, KS) :: JI
def DH : Jb := ⟨36, ⟨[(0, (.ptr 0 [])), (1, (.ptr 1 [])), (2, Ec)], [(0, Ja, Wq), (1, Ja, Jn)]⟩, 0, ⟨[(0, (.ptr 0 [])), (1, (.ptr 1 []))], [(0, Ja, Wq), (1, Ja, Jn)]⟩, ⟨[], []⟩, Hk⟩
def BR : WL := [(3, DH)]
theorem LN : Bc (WG true JI [(8999, 200001)] [] []) BR (lp f34 0) := Sg 3 (ls := DH) rfl
theorem XP : WO HM := Rm BP func34 (Tb LN Hb)
abbrev JS : Qb := .bx true false Mf .u Kn [true] (fun x0 x => Vh x0)
abbrev GM : WF := (33, JS) :: HM
theorem VP : WO GM := UA (L := []) (m := []) (v := []) (l := []) XP func33 Hb
abbrev VR : Qb := .bx true false Mf Kn Kn [true] (fun x0 x => Nd x0 x.1)
abbrev AM : WF := (20, VR) :: GM
theorem IP : WO AM := UA (L := []) (m := []) (v := []) (l := []) VP func20 Hb
abbrev SS : Qb := .pu Kc Zo [true] (fun x => Bd x.1 x.2.1 x.2.2.1)
abbrev JE : WF := (42, SS) :: AM
theorem FQ : WO JE := Sk IP func42
abbrev AT : Qb := .pu Es Zo [true] (fun x => Ch x.1)
abbrev CJ : WF := (50, AT) :: JE
def OH : Jb := ⟨55, ⟨[(1, (.ptr 1 [])), (3, Ec), (4, Ec)], [(1, Ja, Rp)]⟩, 2, ⟨[(1, (.ptr 1 [])), (3, Ec)], [(1, Ja, Rp)]⟩, ⟨[(2, Zn)], []⟩, Li⟩
def NH : Jb := ⟨55, ⟨[(1, (.ptr 1 [])), (3, Ec)], [(1, Ja, Rp)]⟩, 0, ⟨[], []⟩, ⟨[(2, Zn)], []⟩, Ki⟩
def RM : WL := [(9, OH), (4, NH)]
theorem WN : Bc (WG true JE [] [] []) RM (lp f50 1) := Sg 9 (ls := OH) rfl
theorem VN : Bc (WG true JE [] [] []) RM (lp f50 0) := Sg 4 (ls := NH) rfl
theorem NQ : WO CJ := Rm FQ func50 (Tb WN (Tb VN Hb))
abbrev RS : Qb := .pu Es Kn [true] (fun x => Fh x.1)
abbrev IE : WF := (41, RS) :: CJ
def HH : Jb := ⟨40, ⟨[(1, (.ptr 1 [])), (3, Ec), (4, Ec)], [(1, Ja, Rp)]⟩, 0, ⟨[(3, Ec)], []⟩, ⟨[], []⟩, Yg⟩
def GR : WL := [(3, HH)]
theorem PN : Bc (WG true CJ [] [] []) GR (lp f41 0) := Sg 3 (ls := HH) rfl
theorem EQ : WO IE := Rm NQ func41 (Tb PN Hb)
abbrev TS : Qb := .pu (.p Ja Kn) Kn [true] (fun x => Yk x.1 x.2.1)
abbrev LM : WF := (43, TS) :: IE
def JH : Jb := ⟨39, ⟨[(1, Ec), (2, Kp), (5, Ec), (6, Ec), (7, Ec)], [(2, Ja, Rp)]⟩, 2, ⟨[(1, Ec), (2, Kp), (6, Ec)], [(2, Ja, Rp)]⟩, ⟨[(4, Ec)], []⟩, Zg⟩
def IH : Jb := ⟨39, ⟨[(1, Ec), (2, Kp), (5, Ec), (6, Ec)], [(2, Ja, Rp)]⟩, 0, ⟨[(5, Ec)], []⟩, ⟨[(4, Ec)], []⟩, Ie⟩
def QM : WL := [(8, JH), (5, IH)]
theorem RN : Bc (WG true IE [] [] []) QM (lp f43 1) := Sg 8 (ls := JH) rfl
theorem QN : Bc (WG true IE [] [] []) QM (lp f43 0) := Sg 5 (ls := IH) rfl
theorem GQ : WO LM := Rm EQ func43 (Tb RN (Tb QN Hb))
abbrev BT : Qb := .pu Kc Kn [true] (fun x => Ql x.1 x.2.1 x.2.2.1)
abbrev NM : WF := (51, BT) :: LM
theorem OQ : WO NM := Sk GQ func51
abbrev US : Qb := .pu (.p int DE) (.p (.sl Rd) .u) [true] (fun x => Lf x.1 x.2.1 x.2.2.1 x.2.2.2.1 x.2.2.2.2.1)
abbrev XI : WF := (44, US) :: NM
theorem HQ : WO XI := Sk OQ func44
abbrev VS : Qb := .pu (.p Ja Kn) (.p int Zo) [true, true] (fun x => Di x.1 x.2.1)
abbrev YI : WF := (45, VS) :: XI
def KH : Jb := ⟨78, ⟨[(1, Ec), (2, Kp), (6, Ec), (7, Ec), (8, Zn), (9, Ec)], [(2, Ja, Rp)]⟩, 0, ⟨[(7, Ec), (8, Zn)], []⟩, ⟨[], []⟩, Cg⟩
def HR : WL := [(7, KH)]
theorem SN : Bc (WG true XI [] [] []) HR (lp f45 0) := Sg 7 (ls := KH) rfl
theorem IQ : WO YI := Rm HQ func45 (Tb SN Hb)
abbrev LS : Qb := .pu (.p Ja Us) (.p (.sl Rd) Zo) [true, true] (fun x => Qe x.1 x.2.1 x.2.2.1)
abbrev IM : WF := (35, LS) :: YI
def PD : Jb := ⟨105, ⟨[(1, Ec), (2, Ec), (3, Lp), (8, Ec), (10, Ec), (11, Xq), (12, Ec), (13, Ec)], [(3, Ja, Rp)]⟩, 0, ⟨[(8, Ec), (10, Ec), (11, Xq)], []⟩, ⟨[], []⟩, Ze⟩
def CR : WL := [(13, PD)]
theorem HL : Bc (WG true YI [] [] []) CR (lp f35 0) := Sg 13 (ls := PD) rfl
theorem YP : WO IM := Rm IQ func35 (Tb HL Hb)
abbrev MS : Qb := .bx true false Mf Kn Zo [true] (fun x0 x => Om x0 x.1)
abbrev TI : WF := (36, MS) :: IM
theorem ZP : WO TI := UA (L := []) (m := []) (v := []) (l := []) YP func36 Hb
abbrev WS : Qb := .pu Es Es [true] (fun x => Rj x.1)
abbrev ZI : WF := (46, WS) :: TI
def LH : Jb := ⟨30, ⟨[(1, (.ptr 1 [])), (2, Kp), (3, Lp), (4, Ec)], [(1, Ja, Rp), (2, Ja, Wq), (3, Ja, Jn)]⟩, 0, ⟨[(2, Kp), (3, Lp)], [(2, Ja, Wq), (3, Ja, Jn)]⟩, ⟨[], []⟩, Rk⟩
def IR : WL := [(3, LH)]
theorem TN : Bc (WG true TI [] [] []) IR (lp f46 0) := Sg 3 (ls := LH) rfl
theorem JQ : WO ZI := Rm ZP func46 (Tb TN Hb)
abbrev XS : Qb := .pu (.p Ja (.p Rd .u)) Bt [true, true] (fun x => Ci x.1 x.2.1)
abbrev AJ : WF := (47, XS) :: ZI
def MH : Jb := ⟨97, ⟨[(3, Lp), (4, (.ptr 4 [])), (6, (.ptr 6 [])), (7, Ec)], [(3, Rd, (.data Rd)), (4, Ja, Wq), (6, Ja, Jn)]⟩, 0, ⟨[(3, Lp), (4, (.ptr 4 [])), (6, (.ptr 6 []))], [(3, Rd, (.data Rd)), (4, Ja, Wq), (6, Ja, Jn)]⟩, ⟨[], []⟩, Jg⟩
def JR : WL := [(6, MH)]
theorem UN : Bc (WG true ZI [(7999, 200001), (16999, 101216)] [] []) JR (lp f47 0) := Sg 6 (ls := MH) rfl
theorem KQ : WO AJ := Rm JQ func47 (Tb UN Hb)
abbrev NS : Qb := .pu (.p Ja Kc) Bt [true, true] (fun x => Zd x.1 x.2.1 x.2.2.1 x.2.2.2.1)
abbrev UI : WF := (37, NS) :: AJ
def EH : Jb := ⟨54, ⟨[(3, Ec), (8, (.ptr 8 [])), (10, Xq), (12, (.ptr 12 [])), (13, Ec)], [(8, Ja, (.pr (.own 200002 Il true) YE)), (12, Ja, (.pr (.own 200004 Il true) (.pr (.own 200005 int true) .un)))]⟩, 0, ⟨[(8, (.ptr 8 [])), (12, (.ptr 12 []))], [(8, Ja, Jn), (12, Ja, WK)]⟩, ⟨[(8, (.ptr 8 [])), (9, Zn)], [(8, Ja, Jn)]⟩, He⟩
def DR : WL := [(6, EH)]
theorem MN : Bc (WG true AJ [] [] []) DR (lp f37 0) := Sg 6 (ls := EH) rfl
theorem AQ : WO UI := Rm KQ func37 (Tb MN Hb)
abbrev WR : Qb := .bx true false Mf Zo Es [true] (fun x0 x => Un x0 x.1)
abbrev BM : WF := (21, WR) :: UI
def UG : Jb := ⟨55, ⟨[(0, (.ptr 500000 [])), (1, Zn), (4, (.ptr 4 [])), (5, (.ptr 5 [])), (6, Ec)], [(500000, Mf, (.data Mf)), (4, Ja, Wq), (5, Ja, Jn)]⟩, 0, ⟨[(0, (.ptr 500000 [])), (4, (.ptr 4 [])), (5, (.ptr 5 []))], [(500000, Mf, (.data Mf)), (4, Ja, Wq), (5, Ja, Jn)]⟩, ⟨[], []⟩, Ng⟩
def VQ : WL := [(3, UG)]
theorem DN : Bc (WG false UI [] [] []) VQ (lp f21 0) := Sg 3 (ls := UG) rfl
theorem JP : WO BM := UA AQ func21 (Tb DN Hb)
abbrev BS : Qb := .bx true true Mf (.p Il .u) Kn [true] (fun x0 x => Rg x0 x.1)
abbrev EM : WF := (25, BS) :: BM
theorem NP : WO EM := UA (L := []) (m := []) (v := []) (l := []) JP func25 Hb
abbrev YR : Qb := .bx true false Mf .u Sr [true] (fun x0 x => Am x0)
abbrev CM : WF := (23, YR) :: EM
theorem LP : WO CM := UA (L := []) (m := []) (v := []) (l := []) NP func23 Hb
abbrev YS : Qb := .pu Sr Zo [true] (fun x => Wm x.1)
abbrev MM : WF := (48, YS) :: CM
theorem LQ : WO MM := Sk LP func48
abbrev ZS : Qb := .pu (.p Ja Us) Bt [true, true] (fun x => Mh x.1 x.2.1 x.2.2.1)
abbrev BJ : WF := (49, ZS) :: MM
theorem MQ : WO BJ := Sk LQ func49
abbrev OS : Qb := .pu (.p Ja Sr) (.p (.sl Rd) Zo) [true, true] (fun x => Rl x.1 x.2.1)
abbrev VI : WF := (38, OS) :: BJ
def FH : Jb := ⟨87, ⟨[(6, Xq), (7, (.ptr 7 [])), (8, (.own 200002 int true)), (9, Ec)], [(7, Ja, (.pr (.data (.sl Il)) (.pr (.data Il) (.data .u))))]⟩, 0, ⟨[(6, Xq)], []⟩, ⟨[(4, Xq), (5, Zn)], []⟩, Mg⟩
def ER : WL := [(7, FH)]
theorem NN : Bc (WG true BJ [(8999, 1000104608), (8999, 1000104609)] [] []) ER (lp f38 0) := Sg 7 (ls := FH) rfl
theorem BQ : WO VI := Rm MQ func38 (Tb NN Hb)
abbrev PS : Qb := .pu (.p Ja (.p Kc Kn)) Bt [true, true] (fun x => Sn x.1 x.2.1 x.2.2.1)
abbrev JM : WF := (39, PS) :: VI
def GH : Jb := ⟨51, ⟨[(2, Ec), (6, (.ptr 6 [])), (8, Xq), (10, (.ptr 10 [])), (11, Ec)], [(6, Ja, (.pr (.own 200002 Il true) YE)), (10, Ja, (.pr (.own 200004 Il true) (.pr (.own 200005 int true) .un)))]⟩, 0, ⟨[(6, (.ptr 6 [])), (10, (.ptr 10 []))], [(6, Ja, Jn), (10, Ja, WK)]⟩, ⟨[(6, (.ptr 6 [])), (7, Zn)], [(6, Ja, Jn)]⟩, Ig⟩
def FR : WL := [(6, GH)]
theorem ON : Bc (WG true VI [] [] []) FR (lp f39 0) := Sg 6 (ls := GH) rfl
theorem CQ : WO JM := Rm BQ func39 (Tb ON Hb)
abbrev XR : Qb := .pu (.p Ja Sr) Bt [true, true] (fun x => Xi x.1 x.2.1)
abbrev MI : WF := (22, XR) :: JM
theorem KP : WO MI := Sk CQ func22
abbrev OR : Qb := .bx true false Mf .u Es [true] (fun x0 x => Pp x0)
abbrev VL : WF := (13, OR) :: MI
def QG : Jb := ⟨25, ⟨[(0, (.ptr 500000 [])), (2, Kp), (3, Lp), (4, Ec)], [(500000, Mf, (.data Mf)), (2, Ja, Wq), (3, Ja, Jn)]⟩, 0, ⟨[(0, (.ptr 500000 [])), (2, Kp), (3, Lp)], [(500000, Mf, (.data Mf)), (2, Ja, Wq), (3, Ja, Jn)]⟩, ⟨[], []⟩, Uf⟩
def QQ : WL := [(3, QG)]
theorem ZM : Bc (WG false MI [] [] []) QQ (lp f13 0) := Sg 3 (ls := QG) rfl
theorem AP : WO VL := UA KP func13 (Tb ZM Hb)
abbrev QT : Qb := .pu (.p (.sl Jp) .u) Es [true] (fun x => Zl x.1)
abbrev MO : WF := (5, QT) :: VL
theorem HT : WO MO := Sk AP func5
abbrev QR : Qb := .bx true false Mf .u Sr [true] (fun x0 x => Jo x0)
abbrev XL : WF := (15, QR) :: MO
theorem CP : WO XL := UA (L := []) (m := []) (v := []) (l := []) HT func15 Hb
abbrev RT : Qb := .pu (.p (.sl Jp) .u) Sr [true] (fun x => Al x.1)
abbrev NO : WF := (6, RT) :: XL
theorem IT : WO NO := Sk CP func6
abbrev NR : Qb := .pu Sr Zo [true] (fun x => Pi x.1)
abbrev HE : WF := (12, NR) :: NO
theorem ZO : WO HE := Sk IT func12
abbrev CS : Qb := .pu Es Zo [true] (fun x => Jj x.1)
abbrev NI : WF := (26, CS) :: HE
def YG : Jb := ⟨60, ⟨[(1, (.ptr 1 [])), (16, Ec), (46, (.data Il)), (47, Ec), (48, Ec)], [(1, Ja, Rp)]⟩, 2, ⟨[(1, (.ptr 1 [])), (16, Ec)], [(1, Ja, Rp)]⟩, ⟨[(2, Zn)], []⟩, Hi⟩
def XG : Jb := ⟨60, ⟨[(1, (.ptr 1 [])), (16, Ec)], [(1, Ja, Rp)]⟩, 0, ⟨[], []⟩, ⟨[(2, Zn)], []⟩, Gi⟩
def OM : WL := [(9, YG), (4, XG)]
theorem GN : Bc (WG true HE [] [] []) OM (lp f26 1) := Sg 9 (ls := YG) rfl
theorem FN : Bc (WG true HE [] [] []) OM (lp f26 0) := Sg 4 (ls := XG) rfl
theorem OP : WO NI := Rm ZO func26 (Tb GN (Tb FN Hb))
abbrev RR : Qb := .pu Es Kn [true] (fun x => Eh x.1)
abbrev YL : WF := (16, RR) :: NI
def RG : Jb := ⟨48, ⟨[(1, (.ptr 1 [])), (3, Ec), (11, (.data (.sl Il))), (12, Ec), (13, Ec)], [(1, Ja, Rp)]⟩, 0, ⟨[(3, Ec)], []⟩, ⟨[], []⟩, Cj⟩
def RQ : WL := [(5, RG)]
theorem AN : Bc (WG true NI [] [] []) RQ (lp f16 0) := Sg 5 (ls := RG) rfl
theorem DP : WO YL := Rm OP func16 (Tb AN Hb)
abbrev DS : Qb := .pu Us Zo [true] (fun x => Wh x.1 x.2.1)
abbrev FM : WF := (27, DS) :: YL
theorem PP : WO FM := Sk DP func27
abbrev ES : Qb := .pu Kc Kn [true] (fun x => Ll x.1 x.2.1 x.2.2.1)
abbrev OI : WF := (28, ES) :: FM
theorem QP : WO OI := Sk PP func28
abbrev SR : Qb := .pu (.p Ja Kn) (.p int Zo) [true, true] (fun x => Za x.1 x.2.1)
abbrev KI : WF := (17, SR) :: OI
def SG : Jb := ⟨64, ⟨[(1, Ec), (7, (.data Il)), (8, Ec)], []⟩, 0, ⟨[], []⟩, ⟨[(4, Ec), (5, Zn)], []⟩, Be⟩
def SQ : WL := [(6, SG)]
theorem BN : Bc (WG true OI [] [] []) SQ (lp f17 0) := Sg 6 (ls := SG) rfl
theorem EP : WO KI := Rm QP func17 (Tb BN Hb)
abbrev FS : Qb := .pu (.p Ja Kn) Kn [true] (fun x => Vk x.1 x.2.1)
abbrev PI : WF := (29, FS) :: KI
def ZG : Jb := ⟨51, ⟨[(1, Ec), (2, Kp), (5, Ec)], [(2, Ja, Rp)]⟩, 0, ⟨[(5, Ec)], []⟩, ⟨[], []⟩, Ge⟩
def XQ : WL := [(4, ZG)]
theorem HN : Bc (WG true KI [] [] []) XQ (lp f29 0) := Sg 4 (ls := ZG) rfl
theorem RP : WO PI := Rm EP func29 (Tb HN Hb)
abbrev GS : Qb := .pu (.p int DE) (.p (.sl Rd) .u) [true] (fun x => Xh x.1 x.2.1 x.2.2.1 x.2.2.2.1 x.2.2.2.2.1)
abbrev QI : WF := (30, GS) :: PI
def AH : Jb := ⟨40, ⟨[(0, Ec), (1, Ec), (11, Xq), (20, (.own 200002 int true)), (21, Ec), (22, Ec)], []⟩, 0, ⟨[(11, Xq)], []⟩, ⟨[], []⟩, Mj⟩
def YQ : WL := [(3, AH)]
theorem IN : Bc (WG true PI [] [] []) YQ (lp f30 0) := Sg 3 (ls := AH) rfl
theorem SP : WO QI := Rm RP func30 (Tb IN Hb)
abbrev TR : Qb := .pu (.p Ja Us) (.p (.sl Rd) Zo) [true, true] (fun x => Ri x.1 x.2.1 x.2.2.1)
abbrev ZL : WF := (18, TR) :: QI
def OD : Jb := ⟨93, ⟨[(1, Ec), (2, Ec), (3, Lp), (9, Ec), (11, Ec), (12, Xq), (13, Ec), (60, Ec)], [(3, Ja, Rp)]⟩, 0, ⟨[(9, Ec), (11, Ec), (12, Xq)], []⟩, ⟨[], []⟩, Ye⟩
def TQ : WL := [(14, OD)]
theorem GL : Bc (WG true QI [] [] []) TQ (lp f18 0) := Sg 14 (ls := OD) rfl
theorem GP : WO ZL := Rm SP func18 (Tb GL Hb)
abbrev QS : Qb := .pu (.p Il .u) (.p Il .u) [true] (fun x => Lk x.1)
abbrev WI : WF := (40, QS) :: ZL
theorem DQ : WO WI := Sk GP func40
abbrev HS : Qb := .pu Es Es [true] (fun x => Kj x.1)
abbrev RI : WF := (31, HS) :: WI
def BH : Jb := ⟨26, ⟨[(2, Kp), (3, Lp), (11, (.data (.sl Il))), (12, Ec), (13, Ec)], [(2, Ja, Wq), (3, Ja, Jn)]⟩, 0, ⟨[(2, Kp), (3, Lp)], [(2, Ja, Wq), (3, Ja, Jn)]⟩, ⟨[], []⟩, Lj⟩
def ZQ : WL := [(3, BH)]
theorem JN : Bc (WG true WI [] [] []) ZQ (lp f31 0) := Sg 3 (ls := BH) rfl
theorem TP : WO RI := Rm DQ func31 (Tb JN Hb)
abbrev IS : Qb := .pu (.p Ja (.p Rd .u)) Bt [true, true] (fun x => Ml x.1 x.2.1)
abbrev SI : WF := (32, IS) :: RI
def CH : Jb := ⟨110, ⟨[(3, Lp), (4, (.ptr 4 [])), (6, (.ptr 6 [])), (7, (.own 200001 int true)), (58, Ec), (59, Ec)], [(3, Rd, (.data Rd)), (4, Ja, Wq), (6, Ja, (.pr (.hol 200002 Il [] Il (.own 200001 int true)) YE))]⟩, 1, ⟨[(3, Lp), (4, (.ptr 4 [])), (6, (.ptr 6 []))], [(3, Rd, (.data Rd)), (4, Ja, Wq), (6, Ja, (.pr (.hol 200001 Il [] Il (.own 200002 int true)) YE))]⟩, ⟨[], []⟩, Df⟩
def AR : WL := [(9, CH)]
theorem KN : Bc (WG true RI [(14999, 200001), (18999, 101536)] [] []) AR (lp f32 0) := Sg 9 (ls := CH) rfl
theorem UP : WO SI := Rm TP func32 (Tb KN Hb)
abbrev UR : Qb := .pu (.p Ja (.p (.sl Rd) .u)) Bt [true, true] (fun x => Bk x.1 x.2.1)
abbrev LI : WF := (19, UR) :: SI
def TG : Jb := ⟨31, ⟨[(4, (.ptr 4 [])), (6, (.ptr 6 [])), (13, (.data (.sl Rd))), (14, Ec), (15, Ec)], [(4, Ja, Jn), (6, Ja, WK)]⟩, 0, ⟨[(4, (.ptr 4 [])), (6, (.ptr 6 []))], [(4, Ja, Jn), (6, Ja, WK)]⟩, ⟨[(4, (.ptr 4 [])), (5, Zn)], [(4, Ja, Jn)]⟩, Dm⟩
def UQ : WL := [(3, TG)]
theorem CN : Bc (WG true SI [] [] []) UQ (lp f19 0) := Sg 3 (ls := TG) rfl
theorem HP : WO LI := Rm UP func19 (Tb CN Hb)
abbrev ST : Qb := .pu (.p Ja Sr) (.p (.sl Rd) Zo) [true, true] (fun x => Va x.1 x.2.1)
abbrev PO : WF := (7, ST) :: LI
def YK : Jb := ⟨66, ⟨[(2, Kp), (6, Xq), (27, (.own 200002 int true)), (28, Ec), (29, Ec)], [(2, Ja, (.pr (.data (.sl Il)) (.pr (.data Il) (.data .u))))]⟩, 0, ⟨[(6, Xq)], []⟩, ⟨[(4, Xq), (5, Zn)], []⟩, Hg⟩
def OT : WL := [(5, YK)]
theorem KO : Bc (WG true LI [(14999, 1000103904), (14999, 1000103905)] [] []) OT (lp f7 0) := Sg 5 (ls := YK) rfl
theorem JT : WO PO := Rm HP func7 (Tb KO Hb)
abbrev UT : Qb := .pu Mf Kn [true] (fun x => Zk x.1 x.2.1 x.2.2.1)
abbrev RO : WF := (9, UT) :: PO
theorem LT : WO RO := Sk JT func9
abbrev TT : Qb := .pu (.p Ja (.p Kc Kn)) Bt [true, true] (fun x => Nn x.1 x.2.1 x.2.2.1)
abbrev QO : WF := (8, TT) :: RO
theorem KT : WO QO := Sk LT func8
abbrev LR : Qb := .pu (.p Ja Sr) Bt [true, true] (fun x => Qa x.1 x.2.1)
abbrev TL : WF := (10, LR) :: QO
theorem XO : WO TL := Sk KT func10
abbrev MR : Qb := .pu Es Sr [true] (fun x => Ka x.1)
abbrev UL : WF := (11, MR) :: TL
theorem YO : WO UL := Sk XO func11
abbrev UO : Qb := .pu (.p (.sl Jp) .u) Zo [true] (fun x => Pn x.1)
abbrev MT : WF := (3, UO) :: UL
theorem ET : WO MT := Sk YO func3
theorem Rw : Sm Try.prog II 3 UO := CT ET (by kernel_rfl)
end
end KF
