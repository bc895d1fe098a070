/- Plain theory of the numbers that the statement speaks of: printed from the proofs' own texts, as far as this statement needs it. -/
import Derived.Test.YtjffljhmjdljeaaGreatErffToldPl2
set_option linter.unusedVariables false
set_option linter.unusedSimpArgs false
namespace Go.Proofs.YtjffljhmjdljeaaGreat.Gen
open Go Go.Abs Go.Plain Go.An
theorem examples11:l11_examples=some true:=by
 obtain ⟨h1,h2⟩:=ex11
 have e1:=Erf_eq WD_z 30
 rw [dy_z,h1] at e1
 have e2:=Erf_eq (WD_from (n:=7) (by omega)) 30
 have s:=same11_eq (x:=zI) (y:=zI) okI_z
 rw [iv_z] at s
 unfold l11_examples l11_examples_j1
 rw [e1]
 simp only [obn]
 rw [rFrom5_eq (by omega)]
 simp only [obn]
 refine Eq.trans (congrArg (fun o=>Option.bind o _) e2) ?_
 simp only [obn]
 rw [iv_z,s]
 simp only [obn]
 rw [if_pos True.intro,if_pos (by simp),h2]
 rfl
theorem erff_true {x:AD} {p:Int} {t:Int × Int} {r c:I × Int} (hr:SI r.1) (hc:SI c.1) (t1:erff_Terms x p=some t) (t2:r11_Terms x p=some t) (e1:erff_Erf x p=some (iv r.1,r.2)) (e2:r11_Erf x p=some (iv r.1,r.2)) (f1:erff_Erfc x p=some (iv c.1,c.2)) (f2:r11_Erfc x p=some (iv c.1,c.2)) (b:Bool):l11_ErffTold_j2 x b true p=some true:=by
 unfold l11_ErffTold_j2 l11_ErffTold_j3 l11_ErffTold_j4
 rw [eta_dy,t1]
 simp only [obn]
 rw [t2]
 simp only [obn]
 cases b with
 | true=>
  rw [if_pos rfl,f1]
  simp only [obn]
  rw [f2]
  simp only [obn]
  refine Eq.trans (congrArg (fun o=>Option.bind o _) (same11_eq hc.ok)) ?_
  simp
 | false=>
  rw [if_neg (by simp),e1]
  simp only [obn]
  rw [e2]
  simp only [obn]
  refine Eq.trans (congrArg (fun o=>Option.bind o _) (same11_eq hr.ok)) ?_
  simp
theorem ErffTold_true (a0:AD) (g0:gAD a0) (a1:Int) (g1:(Lit.int .i64 a1).wf=true) (a2:Bool) (g2:True):l11_ErffTold a0 a1 a2=some true:=by
 obtain ⟨h1,h2⟩:=cut_dig g0 8 (by omega)
 have key:∀ p:Int,∀ x,l11_cut a0 8=some x→l11_ErffTold_j2 x a2 true p=some true:=by
  intro p x hx
  have hc:=cut11_eq g0
  rcases right_one' (x:=⟨⟨a0.M.Neg,a0.M.Mag.take (min a0.M.Mag.length 8)⟩,a0.E⟩) h1 h2 with ⟨d,hd,hb,e⟩ | ⟨e1,e2⟩
  ·rw [e,hx] at hc
   cases hc
   exact erff_true (SI_erfR d p) (SI_erfcR d p) (Terms_eq hd p) (rTerms_eq hd p) (Erf_eq hd p) (rErf_eq hd p) (Erfc_eq hd p) (rErfc_eq hd p) a2
  ·rw [hx] at hc
   cases hc
   exact erff_true (r:=(zI,1)) (c:=(zI,1)) SI_z SI_z (Terms_bad e1 p) (rTerms_bad e2 p) (Erf_bad e1 p) (rErf_bad e2 p) (Erfc_bad e1 p) (rErfc_bad e2 p) a2
 have hc:=cut11_eq g0
 unfold l11_ErffTold l11_ErffTold_j1
 rw [examples11]
 simp only [obn]
 rw [if_neg (by simp),hc]
 simp only [obn]
 split
 ·split
  ·exact key _ _ hc
  ·exact key _ _ hc
 ·rw [if_neg (by simp)]
  exact key _ _ hc
end Go.Proofs.YtjffljhmjdljeaaGreat.Gen
