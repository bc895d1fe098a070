/- Plain theory of the numbers that the statement speaks of: printed from the proofs' own texts, as far as this statement needs it. -/
import Derived.Test.YtoakhpdeadglpaaGreatChebFallsPl2
set_option linter.unusedVariables false
set_option linter.unusedSimpArgs false
namespace Go.Proofs.YtoakhpdeadglpaaGreat.Gen
open Go Go.Abs Go.Plain Go.An
theorem nodeA_has {j d q:Nat} (hq:q=64) (hd:1≤d∧d≤16) (hj:j≤d):∃ A,dS q (mS q (piS q 0).1 (iS ((2*j+1:Nat):Int) (piS q 0).2).1 (iS ((2*j+1:Nat):Int) (piS q 0).2).2).1 (iS ((2*d+2:Nat):Int) (mS q (piS q 0).1 (iS ((2*j+1:Nat):Int) (piS q 0).2).1 (iS ((2*j+1:Nat):Int) (piS q 0).2).2).2).1 (iS ((2*d+2:Nat):Int) (mS q (piS q 0).1 (iS ((2*j+1:Nat):Int) (piS q 0).2).1 (iS ((2*j+1:Nat):Int) (piS q 0).2).2).2).2=(A,0)∧HasW (A,0) (thR j d) (-140) 3 (106*p2 (-62)):=by
 obtain ⟨P,eP,hP⟩:=pi_thin hq
 obtain ⟨t,t1,t2,t3,t4⟩:=log_d hd
 rw [eP]
 have i1:=hw_int (n:=((2*j+1:Nat):Int)) (K:=t+1) (by omega) (by rw [Int.natAbs_natCast]; omega)
 have m:=hw_mul hP i1 (p:=q) (by omega) (by omega) (by omega)
 have e1:(iS ((2*j+1:Nat):Int) 0).2=0:=rfl
 have e2:(iS ((2*d+2:Nat):Int) 0).2=0:=rfl
 have m:HasW (mS q P (iS ((2*j+1:Nat):Int) 0).1 0) _ _ _ _:=m
 have k:(2*d+2)≤2 ^ 6:=by omega
 have hj2:p2 (t:Int)≤((2*d+2:Nat):Rat):=by rw [p2_nat]; exact natCast_le t3
 have dd:=hw_div_n m (n:=2*d+2) (k:=6) (by omega) (by omega) k (j:=(t:Int)) hj2 (z:=thR j d) (thR_mul j d) (p:=q) (by omega) (by omega) (by omega)
 have me:=m.h.e
 show ∃ A,dS q (mS q P (iS ((2*j+1:Nat):Int) 0).1 (iS ((2*j+1:Nat):Int) 0).2).1 (iS ((2*d+2:Nat):Int) (mS q P (iS ((2*j+1:Nat):Int) 0).1 (iS ((2*j+1:Nat):Int) 0).2).2).1 (iS ((2*d+2:Nat):Int) (mS q P (iS ((2*j+1:Nat):Int) 0).1 (iS ((2*j+1:Nat):Int) 0).2).2).2=(A,0)∧_
 rw [e1,me,e2]
 have de:=dd.h.e
 generalize dS q (mS q P (iS ((2*j+1:Nat):Int) 0).1 0).1 (iS ((2*d+2:Nat):Int) 0).1 0=A at *
 refine ⟨A.1,Prod.ext rfl de,?_⟩
 have k1:p2 (((t+1:Nat):Int))*p2 (-(t:Int))=2:=by rw [← p2_add,show ((t+1:Nat):Int) + -(t:Int)=1 by omega]; rfl
 have k2:p2 (2+((t+1:Nat):Int)-(q:Int))*p2 (-(t:Int))=2*p2 (-62):=by
  rw [← p2_add,show 2+((t+1:Nat):Int)-(q:Int) + -(t:Int)=1 + -62 by omega,p2_add]; rfl
 have k3:p2 (2+((t+1:Nat):Int)-(t:Int)-(q:Int))=2*p2 (-62):=by rw [show 2+((t+1:Nat):Int)-(t:Int)-(q:Int)=1 + -62 by omega,p2_add]; rfl
 have r:=dd.mono (L':=-140) (H':=3) (w':=106*p2 (-62)) (by omega) (by omega) (by
  rw [k3]
  generalize p2 (((t+1:Nat):Int))=a at *
  generalize p2 (-(t:Int))=b at *
  generalize p2 (2+((t+1:Nat):Int)-(q:Int))=g at *
  generalize p2 (-62)=z at *
  have e:(p2 2*0+a*(49*z)+2*g)*b+2*(2*z)=49*z*(a*b)+2*(g*b)+4*z:=by grind
  rw [e,k1,k2]
  grind)
 exact ⟨⟨rfl,r.h.ok,r.h.m⟩,r.w⟩
noncomputable def stR (d:Nat):R:=(An.hp+An.hp)*((2*d+2:Nat):R)⁻¹
theorem stR_mul (d:Nat):stR d*((2*d+2:Nat):R)=An.hp+An.hp:=by
 have h:(0:R)<((2*d+2:Nat):R):=cast_pos (2*d+1)
 have:=mul_inv (x:=((2*d+2:Nat):R)) (by grind)
 unfold stR
 generalize ((2*d+2:Nat):R)=x at *
 grind
theorem thR_st (j d:Nat):thR j d=((2*j+1:Nat):R)*stR d:=by unfold thR stR; grind
theorem cast_ge {n m:Nat} (h:n≤m):((n:Nat):R)≤((m:Nat):R):=by
 rw [← ofQ_nat,← ofQ_nat]; exact ofQ_le.2 (natCast_le h)
theorem st_Stp {d:Nat} (hd:1≤d∧d≤16):Stp (stR d):=by
 have m:=stR_mul d
 have hb:=hp_bounds
 have h01:=rzero_lt_one
 have c1:=cast_ge (show 4≤2*d+2 by omega)
 have c2:=cast_ge (show 2*d+2≤34 by omega)
 have pos:0<stR d:=by
  have h:(0:R)<((2*d+2:Nat):R):=cast_pos (2*d+1)
  have:=inv_pos h
  unfold stR
  exact rmul_pos (by grind) this
 have e4:((4:Nat):R)=4:=rfl
 have e34:((34:Nat):R)=ofQ 34:=by rw [← ofQ_nat]; rfl
 rw [e4] at c1
 rw [e34] at c2
 have k1:=rmul_le' c1 (show 0≤stR d by grind)
 have k2:=rmul_le' c2 (show 0≤stR d by grind)
 rw [m] at k1 k2
 refine ⟨?_,by grind⟩
 refine Classical.byContradiction fun hn=>?_
 have k3:=rmul_le (show stR d≤ofQ (1 / 16) by grind) (show (0:R)≤ofQ 34 by have:(0:R)<ofQ 34:=ofQ_pos (by decide +kernel); grind)
 rw [← ofQ_mul] at k3
 have k4:=rle_trans (rle_trans pi_near.1 k2) k3
 have k4:=ofQ_le.1 k4
 revert k4
 decide +kernel
theorem th_in {j d:Nat} (hd:1≤d∧d≤16) (hj:j≤d):stR d≤thR j d∧thR j d≤An.hp+An.hp-stR d:=by
 have s:=st_Stp hd
 have m:=stR_mul d
 have pos:0≤stR d:=by have:=s.lo; have:(0:R)<ofQ (1 / 16):=ofQ_pos (by decide +kernel); grind
 have c1:=rmul_le (cast_ge (show 1≤2*j+1 by omega)) pos
 have c2:=rmul_le (cast_ge (show 2*j+1≤2*d+1 by omega)) pos
 rw [show ((1:Nat):R)=1 from rfl] at c1
 rw [show 2*d+2=(2*d+1)+1 by omega,cast_succ] at m
 rw [thR_st]
 constructor
 ·grind
 ·grind
theorem nodeR_has {j d:Nat} (hd:1≤d∧d≤16) (hj:j≤d):∃ u,nodeR j d=(u,0)∧Okd u (-30000) 1000∧ab (ofQ (val u)-C (thR j d))≤ofQ (60*p2 (-62)):=by
 obtain ⟨q,hq⟩:∃ q:Nat,q=64:=⟨64,rfl⟩
 obtain ⟨A,eA,hA⟩:=nodeA_has hq hd hj
 have ti:=th_in hd hj
 have hb:=hp_bounds
 have h01:=rzero_lt_one
 have st:=st_Stp hd
 have p16:(0:R)<ofQ (1 / 16):=ofQ_pos (by decide +kernel)
 have slo:=st.lo
 have z0:=p2_pos (-62)
 have z1:p2 (-62)≤1 / 65536:=by
  have:=p2_le (show (-62:Int) ≤ -16 by omega)
  rwa [show p2 (-16)=1 / 65536 by decide +kernel] at this
 have th4:ab (thR j d)≤ofQ 4:=by
  have:(ofQ 4:R)=4:=rfl
  rw [this,ab_of (by grind)]
  grind
 have en:=hA.ends th4
 have B1:B 3 (val A.lo):=by unfold B; rw [show p2 3=8 by decide +kernel]; exact ⟨by grind,by grind⟩
 have B2:B 3 (val A.hi):=by unfold B; rw [show p2 3=8 by decide +kernel]; exact ⟨by grind,by grind⟩
 obtain ⟨v,ev,ov,rv,bv,dv⟩:=mid_has hA.h hA.w (p:=q) (by omega) B1 B2 (by omega) (by omega)
 have q3:p2 (3-(q:Int))=2*p2 (-62):=by rw [show 3-(q:Int)=1 + -62 by omega,p2_add]; rfl
 have q1:p2 (1-(q:Int))=p2 (-62)*(1 / 2):=by rw [show 1-(q:Int) = -62 + -1 by omega,p2_add,show p2 (-1)=1 / 2 by decide +kernel]
 rw [q3] at dv
 have vlow:p2 (-5)≤val v:=by
  refine ofQ_le.1 ?_
  have k:=(ab_le.1 dv).1
  have e:ofQ (p2 (-5))+ofQ (106*p2 (-62) / 2+2*p2 (-62))≤ofQ (1 / 16):=by
   rw [← ofQ_add]
   refine ofQ_le.2 ?_
   rw [show p2 (-5)=1 / 32 by decide +kernel]
   grind
  grind
 have ov':Okd v (-69) 10:=⟨ov.w,(rep_grid rv vlow).mono (by omega),ov.b.mono (by omega)⟩
 obtain ⟨c,ec,hc,wc⟩:=cosN ov' (by omega) (p:=q) (by omega)
 have HC:HasW (c,0) (C (ofQ (val v))) (-28000) 700 (p2 (3-(q:Int))):=⟨hc,wc⟩
 have en2:=HC.ends (S_one (ofQ (val v))).2
 rw [q3] at en2
 have B3:B 1 (val c.lo):=by unfold B; rw [show p2 1=2 from rfl]; exact ⟨by grind,by grind⟩
 have B4:B 1 (val c.hi):=by unfold B; rw [show p2 1=2 from rfl]; exact ⟨by grind,by grind⟩
 obtain ⟨u,eu,ou,-,-,du⟩:=mid_has hc wc (p:=q) (by omega) B3 B4 (by omega) (by omega)
 rw [q3,q1] at du
 refine ⟨u,?_,ou.mono (by omega) (by omega),?_⟩
 ·have eq:(64:Int)=(q:Int):=by rw [hq]; rfl
  unfold nodeR nodeA nodeM
  rw [← hq,eA]
  show nodeB (Go.Proofs.YtoakhpdeadglpaaGreat.Gen.st 0 zD (midI q A))=(u,0)
  rw [st_zero,ev]
  unfold nodeB
  rw [← hq,eq]
  show (if (0:Int)≠0 then (zD,(0:Int)) else if (sinR v (q:Int) 1).2≠0 then (zD,(sinR v (q:Int) 1).2) else Go.Proofs.YtoakhpdeadglpaaGreat.Gen.st 0 zD (midI q (sinR v (q:Int) 1).1))=(u,0)
  rw [ec,if_neg (by simp),if_neg (by simp),st_zero,eu]
 ·have l:=rle_trans (C_lip (ofQ (val v)) (thR j d)) dv
  have a1:=ab_le.1 l
  have a2:=ab_le.1 du
  have s:ofQ (106*p2 (-62) / 2+2*p2 (-62))+ofQ (2*p2 (-62) / 2+p2 (-62)*(1 / 2))≤ofQ (60*p2 (-62)):=by
   rw [← ofQ_add]; exact ofQ_le.2 (by grind)
  exact ab_le.2 ⟨by grind,by grind⟩
theorem hasI_of {a:I} {x:D} (h1:val a.lo≤val x) (h2:val x≤val a.hi):hasI a x=true:=by
 unfold hasI
 rw [decide_eq_true ((cmpD_le _ _).2 h1),decide_eq_true ((cmpD_le _ _).2 h2)]
 rfl
theorem th_flip {j d:Nat} (hj:j≤d):thR (d-j) d=An.hp+An.hp-thR j d:=by
 have m:=stR_mul d
 have e:((2*d+2:Nat):R)=((2*(d-j)+1:Nat):R)+((2*j+1:Nat):R):=by rw [← cast_add]; congr 1; omega
 rw [thR_st,thR_st,← m,e]
 grind
theorem th_gap {j d:Nat} (hd:1≤d∧d≤16) (hj:j<d):ofQ (1 / 512)≤C (thR j d)-C (thR (j+1) d):=by
 have s:=st_Stp hd
 have m:=stR_mul d
 have pos:0≤stR d:=by have:=s.lo; have:(0:R)<ofQ (1 / 16):=ofQ_pos (by decide +kernel); grind
 have c1:=rmul_le (cast_ge (show 2≤2*j+2 by omega)) pos
 have c2:=rmul_le (cast_ge (show 2*j+2≤2*d by omega)) pos
 have e0:((2*j+2:Nat):R)=((2*j+1:Nat):R)+1:=by rw [show 2*j+2=(2*j+1)+1 by omega,cast_succ]
 have e1:((2*(j+1)+1:Nat):R)=((2*j+1:Nat):R)+1+1:=by rw [show 2*(j+1)+1=(2*j+1)+1+1 by omega,cast_succ,cast_succ]
 have e2:((2*d+2:Nat):R)=((2*d:Nat):R)+1+1:=by rw [show 2*d+2=2*d+1+1 by omega,cast_succ,cast_succ]
 have e3:((2:Nat):R)=1+1:=by rw [show (2:Nat)=0+1+1 from rfl,cast_succ,cast_succ]; have:((0:Nat):R)=0:=rfl; grind
 rw [e2] at m
 rw [e0] at c1 c2
 rw [e3] at c1
 have g:=s.gap (t:=(((2*j+1:Nat):R)+1)*stR d) (by grind) (by grind)
 rw [thR_st,thR_st,e1]
 rw [show ((2*j+1:Nat):R)*stR d=(((2*j+1:Nat):R)+1)*stR d-stR d by grind,show (((2*j+1:Nat):R)+1+1)*stR d=(((2*j+1:Nat):R)+1)*stR d+stR d by grind]
 exact g
theorem q60:60*p2 (-62)+60*p2 (-62)≤p2 (-55)∧60*p2 (-62)<1 / 1048576:=by
 have z1:p2 (-62)≤1 / 1152921504606846976:=by rw [show p2 (-62)=1 / 4611686018427387904 by decide +kernel]; decide +kernel
 have z0:=p2_pos (-62)
 have e:p2 (-55)=128*p2 (-62):=by rw [show (-55:Int)=7 + -62 by omega,p2_add]; rfl
 rw [e]
 exact ⟨by grind,by grind⟩
theorem unit_in {u:D} {t:R} (h:ab (ofQ (val u)-C t)≤ofQ (60*p2 (-62))) (h1:C t≤ofQ (1-1 / 2048)) (h2 : -(ofQ (1-1 / 2048))≤C t) : -1≤val u∧val u≤1:=by
 have k:=ab_le.1 h
 have q:=q60.2
 have s:ofQ (1-1 / 2048)+ofQ (60*p2 (-62))≤ofQ 1:=by
  rw [← ofQ_add]; exact ofQ_le.2 (by grind)
 constructor
 ·refine ofQ_le.1 ?_
  rw [ofQ_neg]
  grind
 ·exact ofQ_le.1 (by grind)
theorem falls_j2 {j0 y:Nat} : l15_ChebFalls_j2 (j0:Int) true (y:Int)=some true:=by
 obtain ⟨d,ed,hd⟩:∃ d:Nat,IntKind.i64.wrap (1+(y:Int).tmod 16)=(d:Int)∧1≤d∧d≤16:=by
  rw [show (16:Int)=((16:Nat):Int) by rfl,tmodn,w64 (by omega) (by omega)]
  exact ⟨1+y % 16,by omega,by omega,by omega⟩
 obtain ⟨j,ej,hj⟩:∃ j:Nat,(j0:Int).tmod (d:Int)=(j:Int)∧j<d:=⟨j0 % d,by rw [tmodn],Nat.mod_lt _ (by omega)⟩
 obtain ⟨a,a1,a2,a3⟩:=nodeR_has (j:=j) hd (by omega)
 obtain ⟨b,b1,b2,b3⟩:=nodeR_has (j:=j+1) hd (by omega)
 obtain ⟨c,c1,c2,c3⟩:=nodeR_has (j:=d-j) hd (by omega)
 have ea:=Node_in (j:=j) (d:=d) hd (by omega)
 have eb:=Node_in (j:=j+1) (d:=d) hd (by omega)
 have ec:=Node_in (j:=d-j) (d:=d) hd (by omega)
 rw [a1] at ea
 rw [b1] at eb
 rw [c1] at ec
 obtain ⟨s,es,vs,os⟩:=add_ok a2 c2 (by omega) (by omega)
 have fs:=dyad_Add_eq a2.w c2.w
 rw [es] at fs
 have st:=st_Stp hd
 have ta:=th_in hd (show j≤d by omega)
 have tb:=th_in hd (show j+1≤d by omega)
 have ua:=unit_in a3 (st.top ta.1 ta.2) (st.bot ta.1 ta.2)
 have ub:=unit_in b3 (st.top tb.1 tb.2) (st.bot tb.1 tb.2)
 have ka:=ab_le.1 a3
 have kb:=ab_le.1 b3
 have kc:=ab_le.1 c3
 rw [th_flip (show j≤d by omega),C_flip] at kc
 have g:=th_gap hd hj
 have lt:val b<val a:=by
  refine ofQ_lt.1 ?_
  have q:=q60.2
  have k:ofQ (60*p2 (-62))+ofQ (60*p2 (-62))<ofQ (1 / 512):=by rw [← ofQ_add]; exact ofQ_lt.2 (by grind)
  grind
 have sm : -(p2 (-55))≤val s∧val s≤p2 (-55):=by
  have k:ofQ (60*p2 (-62))+ofQ (60*p2 (-62))≤ofQ (p2 (-55)):=by rw [← ofQ_add]; exact ofQ_le.2 q60.1
  have e:ofQ (val s)=ofQ (val a)+ofQ (val c):=by rw [← ofQ_add,vs]
  constructor
  ·refine ofQ_le.1 ?_
   rw [ofQ_neg,e]
   grind
  ·refine ofQ_le.1 ?_
   rw [e]
   grind
 have wh:WD ⟨1,-55⟩:=WD_half (by omega)
 have vh:val ⟨1,-55⟩=p2 (-55):=val_half _
 have w1:WD (fromD 1):=WD_from (by omega)
 have w2:WD (fromD (-1)):=WD_from (by omega)
 have v1:val (fromD 1)=1:=by rw [val_from]; rfl
 have v2:val (fromD (-1)) = -1:=by rw [val_from]; rfl
 have p55:=p2_pos (-55)
 have o1:okI ⟨negD ⟨1,-55⟩,⟨1,-55⟩⟩:=⟨wh.neg,wh,by show val (negD ⟨1,-55⟩)≤val ⟨1,-55⟩; rw [val_neg,vh]; grind⟩
 have o2:okI ⟨fromD (-1),fromD 1⟩:=⟨w2,w1,by show val (fromD (-1))≤val (fromD 1); rw [v1,v2]; decide +kernel⟩
 have h1:=ivHas_eq o1 os.w
 rw [hasI_of (a:=⟨negD ⟨1,-55⟩,⟨1,-55⟩⟩) (by show val (negD ⟨1,-55⟩)≤_; rw [val_neg,vh]; exact sm.1) (by show _≤val ⟨1,-55⟩; rw [vh]; exact sm.2)] at h1
 have h2:=ivHas_eq o2 a2.w
 rw [hasI_of (a:=⟨fromD (-1),fromD 1⟩) (by show val (fromD (-1))≤_; rw [v2]; exact ua.1) (by show _≤val (fromD 1); rw [v1]; exact ua.2)] at h2
 have h3:=ivHas_eq o2 b2.w
 rw [hasI_of (a:=⟨fromD (-1),fromD 1⟩) (by show val (fromD (-1))≤_; rw [v2]; exact ub.1) (by show _≤val (fromD 1); rw [v1]; exact ub.2)] at h3
 have hc:=dyad_Cmp_eq a2.w b2.w
 have gt:cmpD a b>0:=(cmpD_gt a b).2 lt
 unfold l15_ChebFalls_j2 l15_ChebFalls_j3
 rw [ed,ej,if_pos (by omega)]
 refine Eq.trans (congrArg (fun o=>Option.bind o _) ea) ?_
 simp only [obn]
 rw [w64 (x:=(j:Int)+1) (by omega) (by omega),show (j:Int)+1=((j+1:Nat):Int) by omega]
 refine Eq.trans (congrArg (fun o=>Option.bind o _) eb) ?_
 simp only [obn]
 rw [w64 (x:=(d:Int)-(j:Int)) (by omega) (by omega),show (d:Int)-(j:Int)=((d-j:Nat):Int) by omega]
 refine Eq.trans (congrArg (fun o=>Option.bind o _) ec) ?_
 simp only [obn]
 refine Eq.trans (congrArg (fun o=>Option.bind o _) fs) ?_
 simp only [obn]
 rw [dyad_Half_eq (by omega)]
 simp only [obn]
 refine Eq.trans (congrArg (fun o=>Option.bind o _) (dyad_Neg_eq wh)) ?_
 simp only [obn]
 rw [dyad_From_eq (by omega)]
 simp only [obn]
 rw [dyad_From_eq (by omega)]
 simp only [obn]
 rw [if_pos True.intro,if_pos True.intro,if_pos True.intro,if_pos True.intro,if_pos True.intro]
 refine Eq.trans (congrArg (fun o=>Option.bind o _) hc) ?_
 simp only [obn]
 rw [if_pos gt]
 refine Eq.trans (congrArg (fun o=>Option.bind o _) h1) ?_
 simp only [obn]
 rw [if_pos True.intro]
 refine Eq.trans (congrArg (fun o=>Option.bind o _) h2) ?_
 simp only [obn]
 rw [if_pos True.intro]
 refine Eq.trans (congrArg (fun o=>Option.bind o _) h3) ?_
 rfl
theorem ChebFalls_true (a0:Int) (g0:(Lit.int .i64 a0).wf=true) (a1:Int) (g1:(Lit.int .i64 a1).wf=true):l15_ChebFalls a0 a1=some true:=by
 have h:=wf_i64 g0
 have k:=wf_i64 g1
 have j1:∀ n:Nat,l15_ChebFalls_j1 a1 true (n:Int)=some true:=fun n=>by
  unfold l15_ChebFalls_j1
  by_cases h0:a1<0
  ·rw [if_pos h0,wrap_low a1 (by omega)]
   exact falls_j2
  ·rw [if_neg h0]
   have:=falls_j2 (j0:=n) (y:=a1.toNat)
   rwa [Int.toNat_of_nonneg (by omega)] at this
 unfold l15_ChebFalls
 rw [examples15]
 simp only [obn]
 rw [if_neg (by simp)]
 by_cases h0:a0<0
 ·rw [if_pos h0,wrap_low a0 (by omega)]
  exact j1 _
 ·rw [if_neg h0]
  have:=j1 a0.toNat
  rwa [Int.toNat_of_nonneg (by omega)] at this
end Go.Proofs.YtoakhpdeadglpaaGreat.Gen
