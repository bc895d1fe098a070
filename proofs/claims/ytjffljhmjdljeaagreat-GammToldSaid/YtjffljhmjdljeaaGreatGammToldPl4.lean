/- Plain theory of the numbers that the statement speaks of: printed from the proofs' own texts, as far as this statement needs it. -/
import Derived.Test.YtjffljhmjdljeaaGreatGammToldPl3
set_option linter.unusedVariables false
set_option linter.unusedSimpArgs false
namespace Go.Proofs.YtjffljhmjdljeaaGreat.Gen
open Go Go.Abs Go.Plain Go.An
theorem zmL {c:I} {z:R} {l h:Int} {ρ:Rat} (hs:SI c) {p:Nat} (hp:2≤p∧p≤168) (b1:blen c.lo.m.natAbs≤170) (b2:blen c.hi.m.natAbs≤170) (r3:p2 l≤val c.lo) (r6:val c.hi≤p2 h) (hl : -2590≤l) (hh:h≤2590) (q1:ofQ (val c.lo)≤E z) (q2:E z≤ofQ (val c.hi)) (hρ:val c.hi≤val c.lo*(1+ρ)) (hρ0:0≤ρ):∃ r,ofR lnR c (p:Int)=(r,0)∧HasW (r,0) z (-46000) 11 (ρ+2*p2 (13-(p:Int)))∧rep p (val r.lo)∧rep p (val r.hi):=by
 have hlo:=hs.ok.1
 have hhi:=hs.ok.2.1
 have hle:=hs.ok.2.2
 have hp0:=zb l
 have m1:0<c.lo.m:=zbz (by grind)
 have m2:0<c.hi.m:=zbz (by grind)
 have kl:=zvl m1 r3 (show val c.lo≤p2 h by grind)
 have kh:=zvl m2 (show p2 l≤val c.hi by grind) r6
 have l1:=zvw hlo m1 b1 wa (p:=p) wa
 have l2:=zvw hhi m2 b2 wa (p:=p) wa
 have f1:=zmF (d:=c.lo) (p:=p) wa wa
 have f2:=zmF (d:=c.hi) (p:=p) wa wa
 have g1:=zvG m1 l1.h.e
 have g2:=zvG m2 l2.h.e
 have z1:Ln (ofQ (val c.lo))≤z:=by
  have:=zat (Zi.2 (show (0:Rat)<val c.lo by grind)) q1
  rwa [zuI] at this
 have z2:z≤Ln (ofQ (val c.hi)):=by
  have:=zat (zc9 z) q2
  rwa [zuI] at this
 generalize hA:lnR c.lo (p:Int)=A at l1 g1
 generalize hK:lnR c.hi (p:Int)=K at l2 g2
 exact ⟨_,zvx hA hK f1 f2 l1.h.e l2.h.e,zDt l1 l2 (by grind) (by grind) z1 z2 hρ hρ0,g1.1,g2.2⟩
theorem zaV {d:D} {L H:Int} (h:Okd d L H) {n:Nat} (hn:H+1-L≤n):blen d.m.natAbs≤n:=by
 by_cases h0:d.m=0
 ·rw [h0]; have:blen (Int.natAbs 0)=0:=by decide
  omega
 ·have:=zmE h h0; omega
theorem zDD:Ln (ofQ 257)≤ofQ (63 / 10)∧0≤Ln (ofQ 256):=by
 have l:=zqp
 have m:=zat (show (0:R)<ofQ 257 from Zi.2 (by decide)) (zc.2 (show (257:Rat)≤p2 (9:Int) by decide +kernel))
 rw [zjf] at m
 have k:=qP l.2 (show (0:R)≤((9:Int):R) from zc.2 (by decide))
 have e:((9:Int):R)*ofQ (7 / 10)=ofQ (63 / 10):=by rw [show ((9:Int):R)=ofQ 9 from rfl,← zk]; congr 1; decide +kernel
 rw [e] at k
 have m0:=zat qg (show (1:R)≤ofQ 256 from zc.2 (by decide))
 rw [zmu] at m0
 exact ⟨zj m k,m0⟩
theorem zvH:ab KP≤ofQ 3:=by
 have h:=zgQ
 have l:=zqp
 have hf2:=zdg
 have hfp:=zdh
 have e1:(hp+hp)*2≤ofQ (p2 (3:Int)):=by
  have:=zF h.2 (show (0:R)≤2 by have:=qg; grind)
  refine zj this ?_
  rw [show (2:R)=ofQ 2 from rfl,← zk]; exact zc.2 (by decide +kernel)
 have m:=zat zqe e1
 rw [zjf] at m
 have e0:(1:R)≤(hp+hp)*2:=by
  have:=zF h.1 (show (0:R)≤2 by have:=qg; grind)
  refine zj ?_ this
  rw [show (2:R)=ofQ 2 from rfl,← zk,← zap]; exact zc.2 (by decide +kernel)
 have m0:=zat qg e0
 rw [zmu] at m0
 have k:=qP l.2 (show (0:R)≤((3:Int):R) from zc.2 (by decide))
 have e:((3:Int):R)*ofQ (7 / 10)=ofQ (21 / 10):=by rw [show ((3:Int):R)=ofQ 3 from rfl,← zk]; congr 1; decide +kernel
 rw [e] at k
 have k2:=zc.2 (show (21 / 10:Rat)≤3 by decide +kernel)
 have q1:=zF (zj m (zj k k2)) (show 0≤hf by grind)
 have q0:=zf m0 (show 0≤hf by grind)
 have q3:ofQ 3*hf≤ofQ 3:=by
  have:=qP (show hf≤1 by grind) (show 0≤ofQ 3 from zc.2 (by decide)); grind
 unfold KP
 rw [qi q0]
 exact zj q1 q3
theorem zjl {a b c:Rat} (h:a=b+c):ofQ a=ofQ b+ofQ c:=by rw [h,zP]
theorem zDE {α:Type} {x:α × Int} (h:x.2=0):x=(x.1,0):=by cases x; cases h; rfl
theorem zvI:eps≤1:=by decide +kernel
theorem zDF:0≤eps:=by decide +kernel
theorem zDG:eps=p2 (-160):=by decide +kernel
theorem zDH {w:Nat} (hw:72≤w∧w≤160) {s:I} {x y:R} {W m:Rat} (h:HasW (s,0) x (-46100) 11 W) (hxy:ab (y-x)≤ofQ eps) (hm:ab x≤ofQ m) (hK:m+W+1≤2048):∃ c,ZZ w s ⟨1,-160⟩=(c,0)∧HasW (c,0) y (-46100) 11 (W+2*eps+2*p2 (11-(w:Int)))∧rep w (val c.lo)∧rep w (val c.hi):=by
 have he160:val ⟨1,-160⟩=eps:=by rw [qC]; decide +kernel
 have he1:=zvI
 have heps0:=zDF
 have o160:Okd ⟨1,-160⟩ (-46100) 11:=zcc wa wa wa
 have ev:ofQ eps=ofQ (val ⟨1,-160⟩):=by rw [he160]
 have h0:0≤val ⟨1,-160⟩:=by rw [he160]; exact heps0
 generalize hd:(⟨1,-160⟩:D)=d at *
 obtain ⟨c4,e4,o4,en4⟩:=zl1 h.h.ok o160 h0 (p:=w) wa wa wa
 have hS4:=zjc (p:=w) (K:=11) (m:=m) h o160 (y:=y) (by rw [← ev]; exact hxy) hm (by rw [he160,show p2 11=2048 by decide +kernel]; grind) wa wa wa
 have w4:wS w (s,(0:Int)).1 d 0=(c4,0):=by show st 0 zI (ZZ w s d)=_; rw [zd]; exact e4
 rw [w4,he160] at hS4
 exact ⟨c4,e4,hS4,en4.rlo,en4.rhi⟩
theorem zDI {d:D} (hd:Okd d (-27) 6) (h0:p2 (-27)≤val d) {n:Nat} (hn:1≤n∧n≤256) {w:Nat} (hw:72≤w∧w≤160) {q:Rat} (hq:val d+(n:Rat)=q) (q1:256≤q) (q2:q≤257) {v:R} (hv:ab (v+lsum (ofQ (val d)) n-An.st KP (ofQ q))≤ofQ eps) (hst:ofQ 600≤An.st KP (ofQ q)) (hv8:ab v≤ofQ 128) :
  GOK w n d∧∃ c,gS5 w n d=(c,0)∧HasW (c,0) v (8-w) 8 (p2 (29-(w:Int))):=by
 have pw:=zb (-(w:Int))
 have pw2:p2 (-(w:Int))≤1 / 1000000000000000:=by
  have:=qe (show -(w:Int) ≤ -60 by omega)
  have e:p2 (-60)≤1 / 1000000000000000:=by decide +kernel
  grind
 have pk:∀ k:Int,p2 (k-(w:Int))=p2 k*p2 (-(w:Int)):=fun k=>Zx k w
 have p11:p2 11=2048:=by decide +kernel
 have p9:p2 9=512:=by decide +kernel
 have L:=zDD
 have kp:=zvH
 obtain ⟨Y,eY,oY,y1,y2⟩:=zvy hd hn.2 (w:=w) wa
 rw [hq] at y1 y2
 have gy:gY w n d=(Y,0):=eY
 have hY:HasW (Y,0) (ofQ q) (-27) 9 0:=⟨⟨rfl,oY,⟨by rw [y1]; exact zK _,by rw [y2]; exact zK _⟩⟩,by show val Y.hi-val Y.lo≤0; grind⟩
 have sY:SI Y:=⟨oY.ok,zaV oY.lo wa,zaV oY.hi wa⟩
 have hq0:(0:R)<ofQ q:=Zi.2 (show (0:Rat)<q by grind)
 have P0:PI w (val d) 0 (intI 1):=by
  have i1:=zgK (n:=1) (K:=0) wa (by decide)
  obtain ⟨r,a,b⟩:=zqq (c:=1) wa
  have a':val (intI 1).lo=1:=a
  refine ⟨(i1.mono wa wa).eq rfl,by rw [a']; exact qM w 0,by rw [show val (intI 1).hi=1 from b]; exact qM w 0,?_,fun _=>by rw [a']; exact Rat.le_refl,⟨by rw [a']; decide,Rat.le_refl,?_⟩⟩
  ·rw [a']; decide +kernel
  ·rw [a',show val (intI 1).hi=1 from b]
   have:((0:Nat):Rat)=0:=rfl
   rw [this]; grind
 obtain ⟨b,eb,hB⟩:=zDw hd h0 (w:=w) wa hn.2 n 0 (intI 1) wa P0
 have gb:gB w n d=(b,0):=by
  unfold gB; rw [gy]; simp only; rw [zpC]; exact eb
 have hh:=zCB (zcc (k:=-1) (L:=-27) (H:=9) wa wa wa)
 rw [qC] at hh
 have abU:ab (ofQ q-ofQ (p2 (-1)))≤ofQ 257:=by
  have e:p2 (-1)=1 / 2:=by decide +kernel
  rw [← ZL,e,qi (zc.2 (show (0:Rat)≤q-1 / 2 by grind))]
  exact zc.2 (by grind)
 have hU:=zmB (p:=w) (m:=257) (K:=9) hY hh abU (by rw [p9]; grind) wa wa wa
 have gu:gU w n d=suS w Y ⟨⟨1,-1⟩,⟨1,-1⟩⟩ 0:=by
  unfold gU; rw [gy,gb]; simp only; rw [zvg]
 have hU':HasW (gU w n d) (ofQ q-ofQ (p2 (-1))) (-27) 9 (2*p2 (9-(w:Int))):=by
  rw [gu]; exact hU.mono (Int.le_refl _) (Int.le_refl _) (by grind)
 have eu:=hU'.h.e
 obtain ⟨l1,el1,hl1,-,-⟩:=zmL (c:=Y) (z:=Ln (ofQ q)) (l:=8) (h:=9) (ρ:=0) sY (p:=w) wa (zaV oY.lo wa) (zaV oY.hi wa) (by rw [y1,show p2 8=256 by decide +kernel]; exact q1) (by rw [y2,p9]; grind) wa wa (by rw [Z6 hq0,y1]; exact zK _) (by rw [Z6 hq0,y2]; exact zK _) (by rw [y1,y2]; grind) Rat.le_refl
 have gl1:gL1 w n d=(l1,0):=by unfold gL1; rw [gy]; exact el1
 have hl1':=hl1.mono (Int.le_refl _) (Int.le_refl _) (w':=16384*p2 (-(w:Int))) (by rw [pk,show p2 13=8192 by decide +kernel]; grind)
 have hM:=zdj hU'.pair hl1' (p:=w) wa wa wa
 have gm:gM w n d=mS w (gU w n d).1 l1 0:=by unfold gM; rw [gl1]
 have Lq:0≤Ln (ofQ q)∧Ln (ofQ q)≤ofQ (63 / 10):=by
  have a:=zat (show (0:R)<ofQ 256 from Zi.2 (by decide)) (zc.2 q1)
  have b:=zat hq0 (zc.2 q2)
  exact ⟨zj L.2 a,zj b L.1⟩
 have mM0:0≤(ofQ q-ofQ (p2 (-1)))*Ln (ofQ q):=zf (by rw [← ZL,show p2 (-1)=1 / 2 by decide +kernel]; exact zc.2 (by grind)) Lq.1
 have mM1:(ofQ q-ofQ (p2 (-1)))*Ln (ofQ q)≤ofQ 1620:=by
  have a:ofQ q-ofQ (p2 (-1))≤ofQ 257:=by have:=zb9 (ofQ q-ofQ (p2 (-1))); exact zj this.1 abU
  have m:=qs a Lq.2 (by rw [← ZL,show p2 (-1)=1 / 2 by decide +kernel]; exact zc.2 (by grind)) (zc.2 (by decide +kernel))
  rw [← zk] at m
  exact zj m (zc.2 (by decide +kernel))
 have hM1:HasW (gM w n d) ((ofQ q-ofQ (p2 (-1)))*Ln (ofQ q)) (-46100) 11 (16777216*p2 (-(w:Int))):=by
  rw [gm]
  refine ((hM.mono wa (Int.le_refl _) (w':=16777216*p2 (-(w:Int))) ?_)).tight (K:=11) (m:=1620) (by rw [qi mM0]; exact mM1) (by rw [p11]; grind)
  rw [pk,pk,p9,p11,show p2 (9+11)=1048576 by decide +kernel]; grind
 have em:=hM1.h.e
 have hN:=zmA hY
 have gnn:gN w n d=nS Y 0:=by unfold gN; rw [gy,em]
 obtain ⟨hpi,lo3⟩:=zvf (p:=w) wa
 have hQ:=zce (n:=1) hpi wa wa
 have epi:=hpi.h.e
 have gq:gQ w 0=scS (piS w 0).1 1 0:=by unfold gQ; rw [epi]
 obtain ⟨Qc,eQ,oQ,v1,v2⟩:=zes (a:=(piS w 0).1) (n:=1) hpi.h.ok wa wa
 have eQ':scS (piS w 0).1 1 0=(Qc,0):=by unfold scS; rw [zd]; exact eQ
 rw [eQ'] at hQ
 rw [eQ'] at gq
 have p21:p2 1=2:=rfl
 have wpi:=hpi.w
 rw [p21] at v1 v2
 rw [pk,show p2 13=8192 by decide +kernel] at wpi
 have sQ:SI Qc:=⟨oQ.ok,by have:=zaV oQ.lo (n:=w+10) wa; omega,by have:=zaV oQ.hi (n:=w+10) wa; omega⟩
 have loQ:6≤val Qc.lo:=by rw [v1]; grind
 have E2:=Z6 zqe
 have mQ:=hQ.h.m
 have twoR:(An.hp+An.hp)*ofQ (p2 1)=(An.hp+An.hp)*2:=by rw [p21]; rfl
 obtain ⟨l2,el2,hl2,-,-⟩:=zmL (c:=Qc) (z:=Ln ((An.hp+An.hp)*2)) (l:=2) (h:=4) (ρ:=4096*p2 (-(w:Int))) sQ (p:=w) wa (by have:=zaV oQ.lo (n:=w+10) wa; omega) (by have:=zaV oQ.hi (n:=w+10) wa; omega) (by rw [show p2 2=4 by decide +kernel]; grind) (by
   have:=oQ.hi.b.2
   have:=qe (show (2:Int)+1≤4 by omega)
   grind) wa wa (by rw [E2,← twoR]; exact mQ.lo) (by rw [E2,← twoR]; exact mQ.hi) (by
   rw [v1,v2] at *
   have:=Rat.mul_le_mul_of_nonneg_right loQ (show 0≤4096*p2 (-(w:Int)) by grind)
   grind) (by grind)
 have gl2:gL2 w=(l2,0):=by unfold gL2; rw [gq]; exact el2
 have hl2':=hl2.mono (Int.le_refl _) (Int.le_refl _) (w':=32768*p2 (-(w:Int))) (by rw [pk,show p2 13=8192 by decide +kernel]; grind)
 have hC:=zce (n:=-1) hl2' wa wa
 have gc:gC w=scS l2 (-1) 0:=by unfold gC; rw [gl2]
 have hC1:HasW (gC w) KP (-46100) 10 (16384*p2 (-(w:Int))):=by
  rw [gc]
  refine ((hC.mono wa wa (w':=16384*p2 (-(w:Int))) (by rw [show p2 (-1)=1 / 2 by decide +kernel]; grind)).eq ?_)
  unfold KP
  rw [ziP]; rfl
 have ec:=hC1.h.e
 have aS1:ab ((ofQ q-ofQ (p2 (-1)))*Ln (ofQ q) + -ofQ q)≤ofQ 1880:=by
  have a:=zc.2 q2
  have b:=zc.2 q1
  have e1:ofQ 1880=ofQ 1620+ofQ 260:=zjl (by decide +kernel)
  have e2:=zc.2 (show (257:Rat)≤260 by decide)
  have e3:=zc.2 (show (0:Rat)≤256 by decide)
  have e4:=zc.2 (show (0:Rat)≤1620 by decide)
  rw [zBG] at e3 e4
  rw [e1]
  exact ab_le.2 ⟨by grind,by grind⟩
 have hS1:=zcd (p:=w) (K:=11) (m:=1880) (hM1.pair.mono (Int.le_refl _) (Int.le_refl _) Rat.le_refl) (hN.mono (L':=-46100) (H':=11) wa wa Rat.le_refl) aS1 (by rw [p11]; grind) wa wa wa
 have gs1:gS1 w n d=aS w (gM w n d).1 (nS Y 0).1 0:=by unfold gS1; rw [gnn,ec]
 have hS1':HasW (gS1 w n d) ((ofQ q-ofQ (p2 (-1)))*Ln (ofQ q) + -ofQ q) (-46100) 11 (16785408*p2 (-(w:Int))):=by
  rw [gs1]
  refine hS1.mono (Int.le_refl _) (Int.le_refl _) ?_
  rw [pk,p11]; grind
 have es1:=hS1'.h.e
 have aS2:ab ((ofQ q-ofQ (p2 (-1)))*Ln (ofQ q) + -ofQ q+KP)≤ofQ 1883:=by
  have e1:ofQ 1883=ofQ 1880+ofQ 3:=zjl (by decide +kernel)
  have t:=Z3 ((ofQ q-ofQ (p2 (-1)))*Ln (ofQ q) + -ofQ q) KP
  rw [e1]; grind
 have hS2:=zcd (p:=w) (K:=11) (m:=1883) hS1'.pair (hC1.pair.mono (L':=-46100) (H':=11) wa wa Rat.le_refl) aS2 (by rw [p11]; grind) wa wa wa
 have gs2:gS2 w n d=aS w (gS1 w n d).1 (gC w).1 0:=by unfold gS2; rw [es1]
 have hS2':HasW (gS2 w n d) ((ofQ q-ofQ (p2 (-1)))*Ln (ofQ q) + -ofQ q+KP) (-46100) 11 (16810000*p2 (-(w:Int))):=by
  rw [gs2]
  refine hS2.mono (Int.le_refl _) (Int.le_refl _) ?_
  rw [pk,p11]; grind
 have es2:=hS2'.h.e
 have s00:stS (ofQ q) 0=0:=rfl
 have z0:((0:Nat):Rat)=0:=rfl
 obtain ⟨s3,e3,hS3,a3⟩:=zDB (w:=w) wa hY y1 y2 q1 (m0:=1883) (W0:=16810000*p2 (-(w:Int))) aS2 (by decide) (by grind) (by grind) 10 0 (gS2 w n d).1 Y wa (Or.inl (zDC wa hY y1 y2 q1)) (by
   rw [s00,z0]
   have e:(ofQ q-ofQ (p2 (-1)))*Ln (ofQ q) + -ofQ q+KP+0=(ofQ q-ofQ (p2 (-1)))*Ln (ofQ q) + -ofQ q+KP:=by grind
   rw [e,show (1883:Rat)+0=1883 by decide +kernel]; exact aS2) ((hS2'.pair.mono (Int.le_refl _) (Int.le_refl _) (by rw [z0]; grind)).eq (by rw [s00]; grind))
 have gs3:gS3 w n d=(s3,0):=by unfold gS3; rw [gy,es2]; exact e3
 have stE:(ofQ q-ofQ (p2 (-1)))*Ln (ofQ q) + -ofQ q+KP+stS (ofQ q) 10=An.st KP (ofQ q):=by
  unfold An.st
  rw [show ofQ (p2 (-1))=hf by rw [ziP]; rfl]
  generalize (ofQ q-hf)*Ln (ofQ q)=z
  grind
 rw [stE] at hS3 a3
 have hS3':=hS3.mono (Int.le_refl _) (Int.le_refl _) (w':=19000000*p2 (-(w:Int))) (by grind)
 have heps:eps≤p2 (-(w:Int)):=by
  have a:=qe (show (-160:Int) ≤ -(w:Int) by omega)
  rw [zDG]; exact a
 obtain ⟨c4,e4,hS4,r41,r42⟩:=zDH (m:=1893) hw hS3' (y:=v+lsum (ofQ (val d)) n) hv (by rw [show (1893:Rat)=1883+10 by decide +kernel]; exact a3) (by grind)
 have gs4:gS4 w n d=(c4,0):=by
  unfold gS4; rw [gs3]
  generalize hd160:(⟨1,-160⟩:D)=e at *
  show st 0 zI (ZZ w s3 e)=_; rw [zd]; exact e4
 have o4:=hS4.h.ok
 have hS4':=hS4.mono (Int.le_refl _) (Int.le_refl _) (w':=20000000*p2 (-(w:Int))) (by rw [pk,p11]; grind)
 have big4:ofQ 599≤v+lsum (ofQ (val d)) n:=by
  have a:=(ab_le.1 hv).1
  have b:ofQ 600=ofQ 599+ofQ 1:=zjl (by decide +kernel)
  have c:=zc.2 zvI
  rw [b] at hst
  generalize lsum (ofQ (val d)) n=s at *
  grind
 have lo4:p2 8≤val c4.lo:=by
  have a:=hS4'.w
  have b:=hS4'.h.m.hi
  have c:=zc.1 (zj big4 b)
  have a':val c4.hi-val c4.lo≤20000000*p2 (-(w:Int)):=a
  have c':599≤val c4.hi:=c
  rw [show p2 8=256 by decide +kernel]
  grind
 have le4:val c4.lo≤val c4.hi:=o4.le
 have g41:=Zw r41 lo4
 have g42:=Zw r42 (show p2 8≤val c4.hi by grind)
 have F4:HasW (c4,0) (v+lsum (ofQ (val d)) n) (8-w) 11 (20000000*p2 (-(w:Int))):=⟨⟨rfl,⟨⟨o4.lo.w,g41,hS4'.h.ok.lo.b⟩,⟨o4.hi.w,g42,hS4'.h.ok.hi.b⟩,o4.le⟩,hS4'.h.m⟩,hS4'.w⟩
 have Ep:E (lsum (ofQ (val d)) n)=ofQ (prq (val d) n):=zqc (by have:=zb (-27); grind) n
 have oB:=hB.has.ok
 have mB:=hB.has.m
 have loB:=hB.lo
 have p27:=zb (-27)
 have m1:0<b.lo.m:=zbz (by grind)
 have m2:0<b.hi.m:=zbz (by have:=hB.rel.le; grind)
 have bl1:blen b.lo.m.natAbs≤w+2:=zgS oB.lo.w m1 hB.rl
 have bl2:blen b.hi.m.natAbs≤w+2:=zgS oB.hi.w m2 hB.rh
 have sB:SI b:=⟨oB.ok,wa,wa⟩
 have hir:(n:Rat)≤256:=by exact_mod_cast zY hn.2
 have hin0:(0:Rat)≤(n:Rat):=by exact_mod_cast Nat.zero_le n
 obtain ⟨l3,el3,hl3,r31,r32⟩:=zmL (c:=b) (z:=lsum (ofQ (val d)) n) (l:=-27) (h:=9*(n:Int)) (ρ:=(n:Rat)*(8*p2 (2-(w:Int)))) sB (p:=w) wa wa wa loB oB.hi.b.2 wa wa (by rw [Ep]; exact mB.lo) (by rw [Ep]; exact mB.hi) hB.rel.rel (Rat.mul_nonneg hin0 (by have:=zb (2-(w:Int)); grind))
 have gl3:gL3 w n d=(l3,0):=by unfold gL3; rw [gb]; exact el3
 have hl3':=hl3.mono (Int.le_refl _) (Int.le_refl _) (w':=40000*p2 (-(w:Int))) (by
  rw [pk,pk,show p2 13=8192 by decide +kernel,show p2 2=4 by decide +kernel]
  have:=Rat.mul_le_mul_of_nonneg_right hir (show 0≤8*(4*p2 (-(w:Int))) by grind)
  grind)
 have big3:ofQ 470≤lsum (ofQ (val d)) n:=by
  have a:=(ab_le.1 hv8).2
  have e:ofQ 599=ofQ 470+ofQ 129:=zjl (by decide +kernel)
  have e2:=zc.2 (show (128:Rat)≤129 by decide)
  rw [e] at big4
  grind
 have lo3':p2 8≤val l3.lo:=by
  have a':val l3.hi-val l3.lo≤40000*p2 (-(w:Int)):=hl3'.w
  have c':470≤val l3.hi:=zc.1 (zj big3 hl3'.h.m.hi)
  rw [show p2 8=256 by decide +kernel]
  grind
 have o3:=hl3'.h.ok
 have le3:val l3.lo≤val l3.hi:=o3.le
 have F3:HasW (l3,0) (lsum (ofQ (val d)) n) (8-w) 11 (40000*p2 (-(w:Int))):=⟨⟨rfl,⟨⟨o3.lo.w,Zw r31 lo3',o3.lo.b⟩,⟨o3.hi.w,Zw r32 (show p2 8≤val l3.hi by grind),o3.hi.b⟩,o3.le⟩,hl3'.h.m⟩,hl3'.w⟩
 have hS5:=zmB (p:=w) (m:=128) (K:=8) F4 F3 (by rw [show v+lsum (ofQ (val d)) n-lsum (ofQ (val d)) n=v by grind]; exact hv8) (by rw [show p2 8=256 by decide +kernel]; grind) wa wa wa
 have gs5:gS5 w n d=suS w c4 l3 0:=by unfold gS5; rw [gs4,gl3]
 have hS5':HasW (gS5 w n d) v (8-w) 8 (p2 (29-(w:Int))):=by
  rw [gs5]
  refine (hS5.mono (Int.le_refl _) (Int.le_refl _) ?_).eq (by grind)
  rw [pk,pk,show p2 8=256 by decide +kernel,show p2 29=536870912 by decide +kernel]; grind
 have t3:=hl1.h.ok.le
 have t4:=hl2.h.ok.le
 have t5:=hl3.h.ok.le
 have k1:(gL1 w n d).2=0:=by rw [gl1]
 have k2:(gN w n d).2=0:=by rw [gnn]; exact hN.h.e
 have k3:(gQ w 0).2=0:=by rw [gq]
 have k4:(gL2 w).2=0:=by rw [gl2]
 have k5:(gS4 w n d).2=0:=by rw [gs4]
 have k6:(gL3 w n d).2=0:=by rw [gl3]
 rw [show l1=(gL1 w n d).1 by rw [gl1]] at t3
 rw [show l2=(gL2 w).1 by rw [gl2]] at t4
 rw [show l3=(gL3 w n d).1 by rw [gl3]] at t5
 exact ⟨⟨eu,k1,k2,k3,k4,k5,k6,t3,t4,t5⟩,(gS5 w n d).1,zDE hS5'.h.e,hS5'.pair⟩
theorem zDJ {w:Nat} (hw:w≤130) {L:Int} (hL : -180≤L∧L≤0) : -24000≤0-(w+20-L)*((w / 2+4:Nat):Int):=by
 have:(w+20-L)*((w / 2+4:Nat):Int)≤330*((69:Nat):Int):=Int.mul_le_mul wa wa wa wa
 omega
theorem zDK {d:D} {L H:Int} (h:Okd d L H) (hL : -168≤L∧L≤0) (hH:0≤H∧H≤8) {w:Nat} (hw:16≤w∧w≤130):HasW (eS w (srS ⟨d,d⟩ (-(exN d:Int)) 0)) (E (ofQ (val d*p2 (-(exN d:Int))))) (-24000) 2 (p2 (10-(w:Int)))∧p2 (-1)≤val (eS w (srS ⟨d,d⟩ (-(exN d:Int)) 0)).1.lo:=by
 have hn:=zqi h hH.1
 have h1:=zC8 h wa wa
 have h2:=zC3 (p:=w) wa h1.pair wa (M:=-24000) (zDJ hw.2 wa) wa
 unfold eS
 rw [h1.h.e,zd]
 refine ⟨h2,?_⟩
 have hw2:=h2.w
 have hh:=h2.h.m.hi
 have hb:=(zve d).1
 have hg:=zgF (ofQ (val d*p2 (-(exN d:Int))))
 have hq:ofQ (1+val d*p2 (-(exN d:Int)))≤ofQ (val (zan w (srS ⟨d,d⟩ (-(exN d:Int)) 0).1).1.hi):=by
  rw [zP]; exact zj hg hh
 have hq:=zc.1 hq
 have p10:p2 (10-(w:Int))≤p2 (-6):=qe wa
 have p10':p2 (-6)=1 / 64:=by decide +kernel
 have p3':p2 (-3)=1 / 8:=by decide +kernel
 have p1':p2 (-1)=1 / 2:=by decide +kernel
 rw [p10'] at p10
 rw [p3'] at hb
 rw [p1']
 generalize val d*p2 (-(exN d:Int))=t at *
 grind
theorem zqr {d:D} {L H:Int} (h:Okd d L H) (hL : -200≤L∧L≤0) (hH:0≤H∧H≤8) {p:Nat} (hp:2≤p∧p≤98):fitB d (p:Int)=true:=by
 refine zmF wa ?_
 by_cases h0:d.m=0
 ·rw [h0]; decide
 ·have:=zmE h h0; omega
theorem zvJ {d:D} {L H:Int} (h:Okd d L H) (hL : -168≤L∧L≤0) (hH:0≤H∧H≤8) {p:Nat} (hp:2≤p∧p≤98):Has (expR d p) (E (ofQ (val d))) (-28000) 8192∧p2 (-4096)≤val (expR d p).1.lo:=by
 obtain ⟨f1,f2⟩:=zDK h hL hH (w:=p+32) wa
 have hn:=zqi h hH.1
 have hk:2 ^ exN d≤2 ^ 12:=Nat.pow_le_pow_right (by decide) wa
 have hk':(2:Nat) ^ 12=4096:=by decide
 obtain ⟨g1,g2⟩:=zC6 (p:=p+32) wa (exN d) 1 2 _ _ _ f1.h f2 wa wa wa (-28000) wa wa
 have e1:ofQ (val d*p2 (-(exN d:Int)))*ofQ (p2 ((exN d:Nat):Int))=ofQ (val d):=by
  rw [← zk]; congr 1
  have:=zpg (-(exN d:Int)) (val d)
  rwa [Int.neg_neg] at this
 have g1:=(g1.eq (congrArg E e1)).mono (Int.le_refl _) (H':=8192) wa
 have hf:fitB d (p:Int)=true:=zqr h wa hH hp
 unfold expR exS
 rw [hf,wc rfl,Int.toNat_natCast,we (by
  intro hc
  have:=(zmE h hc.1).2
  omega)]
 unfold zz
 rw [g1.e,zd]
 have g3:=zp0 g1 (p:=p) wa wa wa
 refine ⟨g3,?_⟩
 obtain ⟨c,e,o,en⟩:=ziO g1.ok (p:=p) wa wa wa
 rw [e]
 have b1:=en.blo _ (qM p _) g2
 have b2:=qe (show -4096 ≤ -((2 ^ exN d*1:Nat):Int) by omega)
 exact Rat.le_trans b2 b1
structure GS (d:D) (w:Nat) (v:R):Prop where
 ok:GOK w (gn d) d
 c:∃ c,gS5 w (gn d) d=(c,0)∧HasW (c,0) v (8-w) 8 (p2 (29-(w:Int)))
theorem zvK {p:Nat} {a:I} {L H:Int} {x:R} (h:Has (a,0) x L H) (hp:1≤p) (hL : -60000≤L) (hH:H≤60000):∃ c,zz p (a,0)=(c,0)∧Has (c,0) x L H∧rep p (val c.lo)∧rep p (val c.hi)∧∀ t:Rat,rep p t→t≤val a.lo→t≤val c.lo:=by
 obtain ⟨c,e,o,en⟩:=ziO h.ok hp hL hH
 have g:=zp0 h hp hL hH
 have e':zz p (a,0)=(c,0):=by unfold zz; rw [zd]; exact e
 rw [show zaj p a=(c,0) from e] at g
 exact ⟨c,e',g,en.rlo,en.rhi,en.blo⟩
theorem zDL {d:D} {p:Nat} (h:GP d (p:Int)) {v:R} (S:GS d (p+96) v):∃ c,Zr (dy d) (p:Int)=some (iv c,0)∧Has (c,0) (E v) (-28000) 8192∧p2 (-4096)≤val c.lo∧rep p (val c.lo)∧rep p (val c.hi):=by
 have hp:=h.p
 obtain ⟨c,e,hc⟩:=S.c
 obtain ⟨c',e',g,-⟩:=zvK (p:=p+64) hc.h wa wa wa
 have eL:gLR d (p+96) (p+64)=(c',0):=by unfold gLR; rw [e]; exact e'
 have olo:=g.ok.lo
 have ohi:=g.ok.hi
 obtain ⟨x1,y1⟩:=zvJ olo wa wa (p:=p+32) wa
 obtain ⟨x2,y2⟩:=zvJ ohi wa wa (p:=p+32) wa
 have f1:=zqr olo wa wa (p:=p+32) wa
 have f2:=zqr ohi wa wa (p:=p+32) wa
 have eG:gGR d p=(⟨(expR c'.lo ((p+32:Nat):Int)).1.lo,(expR c'.hi ((p+32:Nat):Int)).1.hi⟩,0):=by
  rw [zvt,eL]
  exact zvx rfl rfl f1 f2 x1.e x2.e
 have g2:=zvm x1 x2 (zda g.m.lo) (zda g.m.hi)
 have kk:=zDo h S.ok (by rw [e]) (by rw [eL]) (by rw [eG]) (by rw [eG]; exact g2.ok.le)
 rw [eG] at kk
 obtain ⟨r,er,hr,r1,r2,r3⟩:=zvK (p:=p) g2 wa wa wa
 rw [er] at kk
 exact ⟨r,kk,hr,r3 _ (qM p (-4096)) y1,r1,r2⟩
theorem zDM {u v:Rat} (h0:0≤u) (h:u≤v) (n:Nat):0≤u ^ n∧u ^ n≤v ^ n:=by
 induction n with
 | zero=>exact ⟨by rw [Rat.pow_zero]; decide,by rw [Rat.pow_zero,Rat.pow_zero]; exact Rat.le_refl⟩
 | succ n ih=>
  rw [Rat.pow_succ,Rat.pow_succ]
  have a:=Rat.mul_le_mul_of_nonneg_left h ih.1
  have b:=Rat.mul_le_mul_of_nonneg_right ih.2 (show 0≤v by grind)
  exact ⟨Rat.mul_nonneg ih.1 h0,by grind⟩
theorem zDN:∀ k:Nat,k≤9→-1≤cK (k+1)*(1 / 256) ^ (2*k+1)∧cK (k+1)*(1 / 256) ^ (2*k+1)≤1:=by decide +kernel
theorem zDO {q:Rat} (hq:256≤q) (k:Nat) (hk:k≤10) : -(k:Rat)≤sQ q k∧sQ q k≤(k:Rat):=by
 have hm:q*q⁻¹=1:=Rat.mul_inv_cancel _ (by grind)
 have hi:0≤q⁻¹∧q⁻¹≤1 / 256:=by
  generalize q⁻¹=u at *
  constructor
  ·rcases Rat.le_total (a:=0) (b:=u) with k | k
   ·exact k
   ·have:=Rat.mul_le_mul_of_nonneg_left k (show 0≤q by grind); grind
  ·rcases Classical.em (u≤1 / 256) with k | k
   ·exact k
   ·have:=Rat.mul_lt_mul_of_pos_left (show 1 / 256<u by grind) (show 0<q by grind); grind
 induction k with
 | zero=>have:((0:Nat):Rat)=0:=rfl; rw [this]; exact ⟨by show -0≤(0:Rat); decide,Rat.le_refl⟩
 | succ k ih=>
  have ih:=ih wa
  have c:=zDN k wa
  have p:=zDM hi.1 hi.2 (2*k+1)
  have e:((k+1:Nat):Rat)=(k:Rat)+1:=by push_cast; rfl
  rw [sQ,e]
  generalize cK (k+1)=z at *
  generalize q⁻¹ ^ (2*k+1)=s at *
  generalize (1 / 256:Rat) ^ (2*k+1)=t at *
  have : -1≤z*s∧z*s≤1:=by
   rcases Rat.le_total (a:=0) (b:=z) with g | g
   ·have a:=Rat.mul_le_mul_of_nonneg_left p.2 g
    have b:=Rat.mul_nonneg g p.1
    exact ⟨by grind,by grind⟩
   ·have a:=Rat.mul_le_mul_of_nonneg_left p.2 (show 0 ≤ -z by grind)
    have b:=Rat.mul_nonneg (show 0 ≤ -z by grind) p.1
    exact ⟨by grind,by grind⟩
  exact ⟨by grind,by grind⟩
theorem zDP:ofQ 5≤Ln (ofQ 256):=by
 have h:=zu6.1
 rw [← zp8] at h
 have l:=zj (zc.2 (show (5 / 8:Rat)≤6931471805599453094172321214581 / 10000000000000000000000000000000 by decide +kernel)) h
 have k:=qP l (show (0:R)≤((8:Int):R) from zc.2 (by decide))
 have e:ofQ 256=ofQ (p2 (8:Int)):=by rw [show p2 8=256 by decide +kernel]
 rw [e,zjf]
 refine zj ?_ k
 rw [show ((8:Int):R)=ofQ 8 from rfl,← zk]; exact zc.2 (by decide +kernel)
theorem zDQ {q:Rat} (q1:256≤q) (q2:q≤257):ofQ 600≤An.st KP (ofQ q):=by
 have L:=zj zDP (zat (show (0:R)<ofQ 256 from Zi.2 (by decide)) (zc.2 q1))
 have s:=(zDO q1 10 wa).1
 have s':=zc.2 s
 rw [← zu8 (by grind)] at s'
 have K:=(ab_le.1 zvH).1
 have hh:ofQ (p2 (-1))=hf:=by rw [ziP]; rfl
 have u0:ofQ 255≤ofQ q-hf:=by rw [← hh,← ZL]; exact zc.2 (by rw [show p2 (-1)=1 / 2 by decide +kernel]; grind)
 have m:=qs u0 L (zc.2 (show (0:Rat)≤255 by decide)) (zj (zc.2 (show (0:Rat)≤5 by decide)) L)
 rw [← zk] at m
 have qq:=zc.2 q2
 have t:ofQ 600≤ofQ (255*5)-ofQ 257+ofQ (-((10:Nat):Rat)) + -ofQ 3:=by
  rw [← Qj,← ZL,← zP,← zP]; exact zc.2 (by decide +kernel)
 unfold An.st
 generalize (ofQ q-hf)*Ln (ofQ q)=z at *
 generalize stS (ofQ q) 10=y at *
 grind
theorem zDR (x:R) (m n:Nat):lsum x (m+n)=lsum x m+lsum (x+(m:R)) n:=by
 induction n with
 | zero=>show lsum x m=lsum x m+0; grind
 | succ n ih=>
  show lsum x (m+n)+Ln (x+((m+n:Nat):R))=lsum x m+(lsum (x+(m:R)) n+Ln (x+(m:R)+(n:R)))
  have e:x+((m+n:Nat):R)=x+(m:R)+(n:R):=by push_cast; grind
  rw [ih,e]; grind
theorem zDS (n:Nat):ofQ (p2 (n:Int))≤E (n:R):=by
 have e:(n:R)=(n:R)*1:=by grind
 rw [e,← zqa]
 have g:=zgF (1:R)
 have h0:=qg
 have hp:ofQ (p2 (n:Int))≤E 1 ^ n∧0≤ofQ (p2 (n:Int)):=by
  induction n with
  | zero=>rw [zZ,show p2 ((0:Nat):Int)=1 by decide +kernel,zap]; exact ⟨zK _,by grind⟩
  | succ n ih=>
   have ih:=ih (by grind)
   rw [zB,show ((n+1:Nat):Int)=(n:Int)+1 by omega,zy,zk]
   have t:ofQ (p2 1)≤E 1:=by
    rw [show ofQ (p2 1)=(2:R) from rfl]
    have e2:(2:R)=1+1:=by grind
    rw [e2]; exact g
   have t0:(0:R)≤ofQ (p2 1):=zc.2 (show (0:Rat)≤p2 1 by decide +kernel)
   exact ⟨qs ih.1 t ih.2 (zj t0 t),zf ih.2 t0⟩
 exact hp.1
theorem zvL (n:Nat):(n:R)=ofQ (n:Rat):=rfl
theorem zvM:ofQ (p2 128)≤E (ofQ 128):=by
 have h:=zDS 128
 rw [zvL] at h
 exact h
theorem zDT {v:R} {b:Rat} (h:E v=ofQ b) (h1:p2 (-128)≤b) (h2:b≤p2 128):ab v≤ofQ 128:=by
 have u:v≤ofQ 128:=zgG.1 (by rw [h]; exact zj (zc.2 h2) zvM)
 have l : -v≤ofQ 128:=by
  refine zgG.1 (zj ?_ zvM)
  have n:=zpP v
  have pb:0<b:=by have:=zb (-128); grind
  have hb:(0:R)<ofQ b:=Zi.2 pb
  refine zgD hb ?_
  have e:E (-v)*ofQ b=1:=by rw [← h]; grind
  rw [e,← zk,← zap]
  refine zc.2 ?_
  have m:=Rat.mul_le_mul_of_nonneg_left h1 (Rat.le_of_lt (zb 128))
  rw [← zy,show (128:Int) + -128=0 by omega,zN] at m
  exact m
 exact ab_le.2 ⟨by grind,u⟩
theorem zvN {d:D} {p:Int} (h:GP d p) {k:Nat} (h1:(k:Rat)≤val d) (h2:val d<(k:Rat)+1):gn d=256-k:=by
 obtain ⟨a,b,-,-⟩:=zgT h
 have c1:(fK d:Rat)<((k+1:Nat):Rat):=by push_cast; grind
 have c2:(k:Rat)<((fK d+1:Nat):Rat):=by push_cast; grind
 have c1:fK d<k+1:=by exact_mod_cast c1
 have c2:k<fK d+1:=by exact_mod_cast c2
 unfold gn
 omega
theorem zmM {d:D} (h:Okd d (-27) 6) (h0:p2 (-27)≤val d) {p:Int} (hp:2≤p∧p≤64):GP d p:=by
 have b:=h.b.2
 rw [show p2 6=64 by decide +kernel] at b
 exact ⟨h.w,zaV h wa,Rat.le_trans (qe wa) h0,b,hp⟩
theorem zDU {d:D} (h:Okd d (-27) 6) (h0:p2 (-27)≤val d) {w:Nat} (hw:72≤w∧w≤160) {v:R} (hv:ab (v+lsum (ofQ (val d)) (gn d)-An.st KP (ofQ (val d+(gn d:Rat))))≤ofQ eps) (hv8:ab v≤ofQ 128):GS d w v:=by
 have g:=zmM h h0 (p:=2) wa
 obtain ⟨a,b,c,-⟩:=zgT g
 have hn:=zjk g
 have e:(gn d:Rat)=256-(fK d:Rat):=by
  have:gn d+fK d=256:=by unfold gn; omega
  have:((gn d+fK d:Nat):Rat)=((256:Nat):Rat):=by rw [this]
  push_cast at this
  have e:((256:Nat):Rat)=256:=rfl
  grind
 have q1:256≤val d+(gn d:Rat):=by grind
 have q2:val d+(gn d:Rat)≤257:=by grind
 obtain ⟨ok,r⟩:=zDI h h0 (n:=gn d) wa hw rfl q1 q2 hv (zDQ q1 q2) hv8
 exact ⟨ok,r⟩
theorem zqs {n:Nat} (hn:1≤n∧n≤64):Okd (fromD (n:Int)) (-27) 6∧val (fromD (n:Int))=(n:Rat)∧p2 (-27)≤val (fromD (n:Int)):=by
 have v:val (fromD (n:Int))=(n:Rat):=by rw [QD]; exact Rat.intCast_natCast n
 have c1:(1:Rat)≤(n:Rat):=by exact_mod_cast zY hn.1
 refine ⟨(zi8 (K:=6) wa wa).mono wa wa,v,?_⟩
 rw [v]
 have e:p2 (-27)≤1:=by decide +kernel
 grind
theorem zDV (x y:R):ab (x-y)=ab (y-x):=by rw [← zew,show -(x-y)=y-x by grind]
theorem zDW:∀ k:Nat,k≤29→1≤prq 1 k∧prq 1 k≤p2 128:=by decide +kernel
theorem zDX {n:Nat} (hn:1≤n∧n≤30) {w:Nat} (hw:72≤w∧w≤160):GS (fromD (n:Int)) w (lsum 1 (n-1))∧E (lsum 1 (n-1))=ofQ (prq 1 (n-1)):=by
 obtain ⟨o,v,l⟩:=zqs (n:=n) wa
 have g:=zvN (zmM o l (p:=2) wa) (k:=n) (by rw [v]; exact Rat.le_refl) (by rw [v]; grind)
 have eE:=zqc (x:=1) (by decide) (n-1)
 have pq:=zDW (n-1) wa
 have p1:p2 (-128)≤1:=by decide +kernel
 refine ⟨zDU o l hw ?_ (zDT eE (by grind) pq.2),eE⟩
 rw [g,v]
 have s:=zDR 1 (n-1) (256-n)
 rw [show n-1+(256-n)=255 by omega] at s
 have e1:(1:R)+((n-1:Nat):R)=ofQ (n:Rat):=by
  have h:(n:Rat)=1+((n-1:Nat):Rat):=by
   have:((n-1+1:Nat):Rat)=(n:Rat):=by rw [show n-1+1=n by omega]
   push_cast at this
   grind
  have k:=zjl h
  rw [k,zvL,zap]
 rw [e1] at s
 have e2:(n:Rat)+((256-n:Nat):Rat)=256:=by
  have:((n+(256-n):Nat):Rat)=((256:Nat):Rat):=by rw [show n+(256-n)=256 by omega]
  push_cast at this
  exact this
 rw [← s,e2]
 have k:=zCS
 have e3:An.st KP (ofQ 256)=An.st KP 256:=rfl
 rw [e3]
 rw [zDV]; exact k
theorem zDY (k:Int):∃ r,zaG k=some r∧r.2.2=decide (1≤k∧k≤10):=by
 by_cases h:1≤k∧k≤10
 ·have c:k=1∨k=2∨k=3∨k=4∨k=5∨k=6∨k=7∨k=8∨k=9∨k=10:=wa
  rcases c with rfl | rfl | rfl | rfl | rfl | rfl | rfl | rfl | rfl | rfl<;>exact ⟨_,rfl,by decide⟩
 ·have h4:¬(k == 4)=true:=by
   intro e
   have:=eq_of_beq e
   omega
  unfold zaG zkD
  rw [we (show ¬k=1 by omega),we (show ¬k=2 by omega),we h4,we (show ¬k=3 by omega),we (show ¬k=5 by omega),we (show ¬k=6 by omega),we (show ¬k=7 by omega),we (show ¬k=8 by omega),we (show ¬k=9 by omega),we (show ¬k=10 by omega)]
  exact ⟨_,rfl,(decide_eq_false h).symm⟩
theorem zDZ:Zr (dy zD) 30=some (iv zI,3):=by
 have f:Qn (dy zD) 30=some 3:=by
  unfold Qn zdH zhl
  rw [we wa,we wa,ZX qj.1 qj.sz]
  simp only [obn]
  rw [we wb,zmg qj.sz]
  simp only [obn]
  rw [decide_eq_false (by decide),we wb,← qp]
  refine Eq.trans (congrArg (fun o=>Option.bind o _) (Ze qj qj)) ?_
  simp only [obn]
  rw [wc (by decide)]
 unfold Zr
 rw [f]
 simp only [obn]
 rw [wc (by decide),zw]
theorem zD0:prq 1 4=24:=by decide +kernel
theorem zD1:zhS=some true:=by
 have o1:=zqs (n:=1) wa
 have o5:=zqs (n:=5) wa
 have z1:((1:Nat):Rat)=1:=rfl
 have P1:=zmM o1.1 o1.2.2 (p:=20) wa
 have P5:=zmM o5.1 o5.2.2 (p:=20) wa
 have l1:=zji P1
 rw [zvN P1 (k:=1) (by rw [o1.2.1]; exact Rat.le_refl) (by rw [o1.2.1]; grind)] at l1
 have W:=zDX (n:=5) wa (w:=20+96) wa
 obtain ⟨c,g5,h5,-⟩:=zDL (p:=20) P5 W.1
 have z:=zDZ
 rw [qp] at z
 have hh:zbO (iv c) (dy (fromD 24))=some true:=by
  rw [zl8 h5.ok.ok (zb1 wa)]
  congr 1
  refine (zbq _ _).2 ?_
  have e:E (lsum 1 (5-1))=ofQ (val (fromD 24)):=by
   rw [W.2,QD]
   show ofQ (prq 1 4)=_
   rw [zD0]; rfl
  have m:=h5.m
  rw [e] at m
  exact ⟨zc.1 m.lo,zc.1 m.hi⟩
 unfold zhS zaJ
 rw [zgv wa]
 simp only [obn]
 refine Eq.trans (congrArg (fun o=>Option.bind o _) l1) ?_
 simp only [obn]
 refine Eq.trans (congrArg (fun o=>Option.bind o _) z) ?_
 simp only [obn]
 rw [show zaG 6=some ((-691),2730,true) from rfl]
 simp only [obn]
 rw [zgv wa]
 simp only [obn]
 refine Eq.trans (congrArg (fun o=>Option.bind o _) g5) ?_
 simp only [obn]
 rw [wc (by decide),wc True.intro,wc True.intro,wc True.intro,wc True.intro,wc True.intro,wc True.intro,zgv wa]
 simp only [obn]
 exact congrArg (fun o=>Option.bind o _) hh
end Go.Proofs.YtjffljhmjdljeaaGreat.Gen
namespace Go.An
open Go.Abs (wa wb wc we)
theorem zvO:(1:R)<hp∧hp<2:=by
 have h:=zgQ
 have a:=zc.2 (show (3:Rat)≤31415926535897932384626433832794 / 10000000000000000000000000000000 by decide +kernel)
 have b:=zc.2 (show (31415926535897932384626433832796 / 10000000000000000000000000000000:Rat)≤16 / 5 by decide +kernel)
 have c:=Zi.2 (show (16 / 5:Rat)<4 by decide +kernel)
 have e3:ofQ 3=(1:R)+1+1:=by rw [← zap,← zP,← zP]; exact congrArg ofQ (by decide +kernel)
 have e4:ofQ 4=(1:R)+1+1+1:=by rw [← zap,← zP,← zP,← zP]; exact congrArg ofQ (by decide +kernel)
 have e2:(2:R)=1+1:=by grind
 have h01:=qg
 rw [e3] at a
 rw [e4] at c
 constructor<;>grind
theorem zvP (u:R):S (u+u)=2*(S u*C u):=by rw [zdd]; grind
theorem zD2 {u:R} (h:ab u<1):0<C u:=by
 have a:=zuV u
 have b:=zuW h
 grind
theorem zvQ {u:R} (h0:0<u) (h2:u<2):0<S u:=by
 obtain ⟨v,rfl⟩:=zpQ u
 have h01:=qg
 have v0:0<v:=by grind
 have v1:v<1:=by grind
 have a:=zCv v0 v1
 have b:=zD2 (u:=v) (by rw [qi (by grind)]; exact v1)
 have m:=Z5 a b
 rw [zvP]
 grind
theorem zqt {u:R} (h1 : -hp<u) (h2:u<hp):0<C u:=by
 have hb:=zvO
 have key:∀ t:R,0≤t→t<hp→0<C t:=by
  intro t t0 t1
  have s:=zvQ (u:=hp-t) (by grind) (by grind)
  have e:S (hp-t)=C t:=by
   rw [show hp-t = -t+hp by grind,zCj,(zde t).2]
  rwa [e] at s
 rcases Classical.em (0≤u) with k | k
 ·exact key u k h2
 ·have:=key (-u) (by grind) (by grind)
  rwa [(zde u).2] at this
theorem zD3 {u:R} (h0:0<u) (h2:u<hp+hp):0<S u:=by
 obtain ⟨v,rfl⟩:=zpQ u
 have hb:=zvO
 have h01:=qg
 have a:=zvQ (u:=v) (by grind) (by grind)
 have b:=zqt (u:=v) (by grind) (by grind)
 have m:=Z5 a b
 rw [zvP]
 grind
structure Tan (x a:R):Prop where
 lo : -hp<a
 hi:a<hp
 t:S a=x*C a
theorem Tan.sub {x y a b:R} (h:Tan x a) (k:Tan y b):S (b-a)=(y-x)*(C a*C b):=by
 rw [show b-a=b + -a by grind,zdd,(zde a).1,(zde a).2,h.t,k.t]; grind
theorem Tan.lt {x y a b:R} (h:Tan x a) (k:Tan y b) (hab:a<b):x<y:=by
 have a1:=h.lo; have a2:=h.hi; have b1:=k.lo; have b2:=k.hi
 have s:=zD3 (u:=b-a) (by grind) (by grind)
 rw [h.sub k] at s
 have c:=Z5 (zqt a1 a2) (zqt b1 b2)
 rcases Classical.em (x<y) with g | g
 ·exact g
 ·have:=zf (show 0≤x-y by grind) (show 0≤C a*C b by grind)
  grind
theorem Tan.mono {x y a b:R} (h:Tan x a) (k:Tan y b) (hxy:x≤y):a≤b:=by
 rcases Classical.em (a≤b) with g | g
 ·exact g
 ·have:=k.lt h (show b<a by grind); grind
theorem Tan.inj {x a b:R} (h:Tan x a) (k:Tan x b):a=b:=zi3 (h.mono k (zK _)) (k.mono h (zK _))
theorem Tan.neg {x a:R} (h:Tan x a):Tan (-x) (-a):=by
 have a1:=h.lo; have a2:=h.hi
 refine ⟨by grind,by grind,?_⟩
 rw [(zde a).1,(zde a).2,h.t]; grind
end Go.An
namespace Go.Proofs.YtjffljhmjdljeaaGreat.Gen
open Go Go.Abs Go.Plain Go.An
def eN (w:Nat) (tw:I) (i:Nat) (t:I) (e:Int):I × Int:=
 dS w (mS w t tw e).1 (iS ((2*i+1:Nat):Int) (mS w t tw e).2).1 (iS ((2*i+1:Nat):Int) (mS w t tw e).2).2
def eL (w:Nat) (tw:I):Nat→Nat→I→I→Int→I × I × Int
 | 0,_,t,s,e=>(t,s,e)
 | k+1,i,t,s,e=>eL w tw k (i+1) (eN w tw i t e).1 (aS w s (eN w tw i t e).1 (eN w tw i t e).2).1 (aS w s (eN w tw i t e).1 (eN w tw i t e).2).2
def eA (w:Nat) (neg:Bool) (L:I × I × Int) (bell:I):I × Int:=
 (fun a=>(fun b=>(fun c=>(fun r=>(fun q=>if neg=true then nS q.1 q.2 else q) (dS w c.1 r.1 r.2)) (zA3 w c.2)) (mS w b.1 bell b.2)) (scS a.1 1 a.2)) (wS w L.2.1 L.1.hi L.2.2)
structure PR (w:Nat) (c:I) (z:R) (l K:Int) (α:Rat):Prop where
 h:Has (c,0) z (l-w) K
 r:Rel c α
 lo:p2 l≤val c.lo
 rl:rep w (val c.lo)
 rh:rep w (val c.hi)
theorem PR.hi {w:Nat} {c:I} {z:R} {l K:Int} {α:Rat} (h:PR w c z l K α):val c.hi≤p2 K:=h.h.ok.hi.b.2
theorem PR.mono {w:Nat} {c:I} {z:R} {l K l' K':Int} {α β:Rat} (h:PR w c z l K α) (h1:l'≤l) (h2:K≤K') (h3:α≤β):PR w c z l' K' β:=
 ⟨h.h.mono wa h2,⟨h.r.pos,h.r.le,by
  have a:=h.r.rel
  have b:=Rat.mul_le_mul_of_nonneg_left (show 1+α≤1+β by grind) (Rat.le_of_lt h.r.pos)
  grind⟩,Rat.le_trans (qe h1) h.lo,h.rl,h.rh⟩
theorem PR.eq {w:Nat} {c:I} {z z':R} {l K:Int} {α:Rat} (h:PR w c z l K α) (e:z=z'):PR w c z' l K α:=by subst e; exact h
theorem zvR {d:D} {p:Int} (h:GP d p):Okd d (-264) 7:=by
 have hp:=zb (-64)
 have r:rep 200 (val d):=⟨d.m,d.e,rfl,Nat.le_of_lt (Nat.lt_of_lt_of_le (Zk d.m.natAbs) (Nat.pow_le_pow_right (by decide) h.b))⟩
 have g:=Zw r h.lo
 refine ⟨h.w,g.mono wa,?_⟩
 have e:p2 7=128:=by decide +kernel
 have hlo:=h.lo
 have hhi:=h.hi
 refine ⟨?_,?_⟩<;>rw [e]<;>grind
theorem zvS {d:D} (hd:Okd d (-264) 7) {i:Nat} (hi:i≤256) {w:Nat} (hw:66≤w∧w≤160):∃ c,aS w ⟨d,d⟩ (intI (i:Int)) 0=(c,0)∧OkI c (-264) 10∧Enc w c (val d+(i:Rat)) (val d+(i:Rat)):=by
 have o1:OkI ⟨d,d⟩ (-264) 9:=⟨hd.mono (Int.le_refl _) wa,hd.mono (Int.le_refl _) wa,Rat.le_refl⟩
 have oi:Okd (fromD (i:Int)) 0 9:=zi8 (K:=9) wa (by simp; omega)
 have o2:OkI (intI (i:Int)) (-264) 9:=⟨oi.mono wa wa,oi.mono wa wa,Rat.le_refl⟩
 obtain ⟨c,e,o,en⟩:=zbs o1 o2 (p:=w) wa wa wa
 have vi:val (intI (i:Int)).lo=(i:Rat):=by rw [show (intI (i:Int)).lo=fromD (i:Int) from rfl,QD]; exact Rat.intCast_natCast i
 have vi2:val (intI (i:Int)).hi=(i:Rat):=vi
 rw [vi,vi2] at en
 exact ⟨c,by show st 0 zI (ZY w _ _)=_; rw [zd]; exact e,o,en⟩
theorem zmN {a b:I} {u v:Rat} (pr:Prod a b u v) (ha:0≤val a.lo) (hb:0≤val b.lo) (la:val a.lo≤val a.hi) (lb:val b.lo≤val b.hi):val a.lo*val b.lo≤u:=by
 have k1:=Rat.mul_le_mul_of_nonneg_left lb ha
 have k2:=Rat.mul_le_mul_of_nonneg_right la hb
 have k3:=Rat.mul_le_mul_of_nonneg_right la (show 0≤val b.hi by grind)
 rcases pr.mu with h | h | h | h<;>rw [h]
 ·exact Rat.le_refl
 ·exact k1
 ·exact k2
 ·exact Rat.le_trans k1 k3
structure QI (w i:Nat) (b:I):Prop where
 ok:OkI b (-64-w) (10*(i:Int))
 rl:rep w (val b.lo)
 rh:rep w (val b.hi)
 lo:p2 (-64)≤val b.lo
 one:i=0→1≤val b.lo
theorem zD4 {d:D} (hd:Okd d (-264) 7) (h0:p2 (-64)≤val d) {w:Nat} (hw:66≤w∧w≤160) {n:Nat} (hn:n≤256):∀ (k i:Nat) (b:I),i+k=n→QI w i b→∃ b',gP w d k i b 0=(b',0)∧QI w n b':=by
 have p64:=zb (-64)
 intro k
 induction k with
 | zero=>
  intro i b hi hb
  have:i=n:=wa
  subst this
  exact ⟨b,rfl,hb⟩
 | succ k ih=>
  intro i b hi hb
  obtain ⟨c,ec,oc,en⟩:=zvS hd (i:=i) wa hw
  have hi0:(0:Rat)≤(i:Rat):=by exact_mod_cast Nat.zero_le i
  have c0:p2 (-64)≤val c.lo:=en.blo _ (qM w (-64)) (by grind)
  have hble:=hb.ok.le
  have hcle:=oc.le
  have hblo:=hb.lo
  obtain ⟨b',u,v,e1,o1,en1,pr⟩:=zak hb.ok oc (p:=w) wa wa wa
  have hu:=zmN pr (by grind) (by grind) hble hcle
  have lo':p2 (-64)≤val b'.lo:=by
   refine en1.blo _ (qM w (-64)) (Rat.le_trans ?_ hu)
   by_cases hz:i=0
   ·have h1:=hb.one hz
    have:=Rat.mul_le_mul_of_nonneg_right h1 (show 0≤val c.lo by grind)
    grind
   ·have i1:(1:Rat)≤(i:Rat):=by exact_mod_cast zY (show 1≤i by omega)
    have c1:1≤val c.lo:=by
     have:=en.blo _ (qM w 0) (by rw [zN]; grind)
     rw [zN] at this; exact this
    have:=Rat.mul_le_mul_of_nonneg_left c1 (show 0≤val b.lo by grind)
    grind
  have hp:QI w (i+1) b':=by
   have g1:=Zw en1.rlo lo'
   have g2:=Zw en1.rhi (show p2 (-64)≤val b'.hi by have:=o1.le; grind)
   have m:=o1.mono (L':=-64-w + -264) (H':=10*((i+1:Nat):Int)) (Int.le_refl _) wa
   exact ⟨⟨⟨m.lo.w,g1,m.lo.b⟩,⟨m.hi.w,g2,m.hi.b⟩,m.le⟩,en1.rlo,en1.rhi,lo',wa⟩
  obtain ⟨b2,f1,f2⟩:=ih (i+1) b' wa hp
  refine ⟨b2,?_,f2⟩
  have ep:pS d 0=(⟨d,d⟩,0):=by unfold pS; rw [zd]
  have ei:iS (i:Int) 0=(intI (i:Int),0):=by unfold iS; rw [zd]
  have e1':mS w b c 0=(b',0):=by unfold mS; rw [zd]; exact e1
  rw [gP,ep]
  simp only
  rw [ei]
  simp only
  rw [ec]
  simp only
  rw [e1']
  exact f1
theorem zqu {w:Nat} (hw:66≤w∧w≤160) {c:I} (ok:okI c) (bl1:blen c.lo.m.natAbs≤170) (bl2:blen c.hi.m.natAbs≤170) (lo:p2 (-64)≤val c.lo) {h:Int} (hh:h≤2590) (hi:val c.hi≤p2 h):∃ r,ofR lnR c (w:Int)=(r,0)∧OkI r (-46000) 11:=by
 have p64:=zb (-64)
 have q64:=zb 64
 have hle:=ok.2.2
 have e:p2 (-64)*p2 64=1:=by rw [← zy]; exact zN
 have sB:SI c:=⟨ok,wa,wa⟩
 have c0:(0:R)<ofQ (val c.lo):=Zi.2 (by grind)
 have k0:0≤val c.hi*p2 64:=Rat.mul_nonneg (by grind) (by grind)
 have hρ:val c.hi≤val c.lo*(1+val c.hi*p2 64):=by
  have k:=Rat.mul_le_mul_of_nonneg_right lo (show 0≤1+val c.hi*p2 64 by grind)
  have e2:p2 (-64)*(1+val c.hi*p2 64)=p2 (-64)+val c.hi:=by
   rw [Rat.mul_add,Rat.mul_one,← Rat.mul_assoc,Rat.mul_comm (p2 (-64)) (val c.hi),Rat.mul_assoc,e,Rat.mul_one]
  grind
 obtain ⟨r,er,hr,-,-⟩:=zmL (c:=c) (z:=Ln (ofQ (val c.lo))) (l:=-64) (h:=h) (ρ:=val c.hi*p2 64) sB (p:=w) wa bl1 bl2 lo hi wa hh (by rw [Z6 c0]; exact zK _) (by rw [Z6 c0]; exact zc.2 hle) hρ k0
 exact ⟨r,er,hr.h.ok⟩
theorem zD5 {a:I} (h:0<val a.lo):hasI a zD=false:=by
 cases hq:hasI a zD with
 | false=>rfl
 | true=>
  have:=((zbq _ _).1 hq).1
  rw [qT] at this
  grind
structure RI2 (j:Nat) (r:I):Prop where
 ok:OkI r (-264*(2*(j:Int)+1)) (10*(2*(j:Int)+1))
 lo:1≤val r.lo
theorem zD6 {w:Nat} (hw:66≤w∧w≤160) {j:Nat} (hj:j≤9) {r:I} (hr:RI2 j r):∃ c,gV w (j+1) r 0=(c,0)∧OkI c (-600) 5600:=by
 obtain ⟨b1,b2,b3,b4⟩:=zvE j hj
 have o1:=(zgK (n:=bnN (j+1)) (K:=18) wa b4).ok
 have o2:=(zgK (n:=(bnC (j+1):Int)) (K:=19) wa (by simpa using b3)).ok
 have v2:val (iS (bnC (j+1):Int) 0).1.lo=(bnC (j+1):Rat):=(zqq b2).2.1
 have c1:(1:Rat)≤(bnC (j+1):Rat):=by exact_mod_cast zY b2
 obtain ⟨m,u,v,e1,om,en,pr⟩:=zak o2 hr.ok (p:=w) wa wa wa
 have hlo:=hr.lo
 have hu:=zmN pr (by rw [v2]; grind) (by grind) o2.le hr.ok.le
 have m1:1≤val m.lo:=by
  have k:=Rat.mul_le_mul_of_nonneg_right c1 (show 0≤val r.lo by grind)
  rw [v2] at hu
  have:=en.blo _ (qM w 0) (by rw [zN]; grind)
  rw [zN] at this; exact this
 obtain ⟨c,e2,oc,-⟩:=zpf o1 om (zD5 (by grind)) (p:=w) wa wa wa
 refine ⟨c,?_,oc.mono wa wa⟩
 unfold gV
 rw [show (iS (bnN (j+1)) 0).2=0 from rfl,show (iS (bnC (j+1):Int) 0).2=0 from rfl]
 have e1':mS w (iS (bnC (j+1):Int) 0).1 r 0=(m,0):=by unfold mS; rw [zd]; exact e1
 rw [e1']
 simp only
 unfold dS
 rw [zd]
 exact e2
theorem zD7 {w:Nat} (hw:66≤w∧w≤160) {Y:I} (oY:OkI Y (-264) 10) (y1:1≤val Y.lo):∀ (k j:Nat) (s r:I),j+k=10→RI2 j r→OkI s (-46264) (5600+j)→∃ s',gT w Y k (j+1) s r 0=(s',0)∧OkI s' (-46264) 5610:=by
 intro k
 induction k with
 | zero=>
  intro j s r hj hr hs
  exact ⟨s,rfl,hs.mono (Int.le_refl _) wa⟩
 | succ k ih=>
  intro j s r hj hr hs
  have hlo:=hr.lo
  obtain ⟨c,ec,oc⟩:=zD6 hw wa hr
  obtain ⟨s',e1,o1,-⟩:=zbs hs (oc.mono (L':=-46264) (H':=5600+j) wa wa) (p:=w) wa wa wa
  obtain ⟨q,u,v,e2,o2,en2,pr2⟩:=zak oY oY (p:=w) wa wa wa
  have hu2:=zmN pr2 (by grind) (by grind) oY.le oY.le
  have q1:1≤val q.lo:=by
   have k:=Rat.mul_le_mul_of_nonneg_right y1 (show 0≤val Y.lo by grind)
   have:=en2.blo _ (qM w 0) (by rw [zN]; grind)
   rw [zN] at this; exact this
  obtain ⟨r',u',v',e3,o3,en3,pr3⟩:=zak hr.ok o2 (p:=w) wa wa wa
  have hu3:=zmN pr3 (by grind) (by grind) hr.ok.le o2.le
  have r1:1≤val r'.lo:=by
   have k:=Rat.mul_le_mul_of_nonneg_right hlo (show 0≤val q.lo by grind)
   have:=en3.blo _ (qM w 0) (by rw [zN]; grind)
   rw [zN] at this; exact this
  obtain ⟨z,f1,f2⟩:=ih (j+1) s' r' wa ⟨o3.mono wa wa,r1⟩ (o1.mono (Int.le_refl _) wa)
  refine ⟨z,?_,f2⟩
  have e1':aS w s c 0=(s',0):=by unfold aS; rw [zd]; exact e1
  have e2':mS w Y Y 0=(q,0):=by unfold mS; rw [zd]; exact e2
  have e3':mS w r q 0=(r',0):=by unfold mS; rw [zd]; exact e3
  rw [gT,ec]
  simp only
  rw [e1']
  simp only
  rw [e2']
  simp only
  rw [e3']
  exact f1
theorem zvT {d:D} (hd:Okd d (-264) 7) (h0:p2 (-64)≤val d) {w:Nat} (hw:66≤w∧w≤160) {n:Nat} (hn:1≤n∧n≤256) (q1:256≤val d+(n:Rat)) (q2:val d+(n:Rat)≤257):GOK w n d∧((gM w n d).2=0∧(gC w).2=0∧(gS1 w n d).2=0)∧∃ c,gS5 w n d=(c,0)∧OkI c (-46264) 5620:=by
 have p64:=zb (-64)
 have p8:p2 8=256:=by decide +kernel
 have p9:p2 9=512:=by decide +kernel
 have l64:p2 (-64)≤1:=by rw [← zN]; exact qe wa
 obtain ⟨Y,eY,oY,enY⟩:=zvS hd hn.2 hw
 have gy:gY w n d=(Y,0):=eY
 have y1:256≤val Y.lo:=by have:=enY.blo _ (qM w 8) (by rw [p8]; exact q1); rw [p8] at this; exact this
 have y2:val Y.hi≤p2 9:=enY.bhi _ (qM w 9) (by rw [p9]; grind)
 have yle:=oY.le
 have oi:Okd (fromD 1) 0 0:=zi8 (K:=0) wa (by decide)
 have v1:val (fromD 1)=1:=by rw [QD]; rfl
 have P0:QI w 0 (intI 1):=by
  refine ⟨⟨oi.mono wa wa,oi.mono wa wa,Rat.le_refl⟩,?_,?_,?_,fun _=>?_⟩
  ·show rep w (val (fromD 1)); rw [v1,← zN]; exact qM w 0
  ·show rep w (val (fromD 1)); rw [v1,← zN]; exact qM w 0
  ·show _≤val (fromD 1); rw [v1]; exact l64
  ·show _≤val (fromD 1); rw [v1]; exact Rat.le_refl
 obtain ⟨b,eb,hB⟩:=zD4 hd h0 hw hn.2 n 0 (intI 1) wa P0
 have gb:gB w n d=(b,0):=by unfold gB; rw [gy]; simp only; exact eb
 have bl0:=hB.lo
 have ble:=hB.ok.le
 have oh:OkI ⟨⟨1,-1⟩,⟨1,-1⟩⟩ (-264) 10:=⟨zcc wa wa wa,zcc wa wa wa,Rat.le_refl⟩
 obtain ⟨U,eU,oU,-⟩:=zbs oY oh.neg (p:=w) wa wa wa
 have gu:gU w n d=(U,0):=by
  unfold gU; rw [gy,gb]; simp only; rw [zvg]; show st 0 zI (ZY w Y (negI _))=_; rw [zd]; exact eU
 have my1:0<Y.lo.m:=zbz (by grind)
 have my2:0<Y.hi.m:=zbz (by grind)
 have bY1:=zgS oY.lo.w my1 enY.rlo
 have bY2:=zgS oY.hi.w my2 enY.rhi
 obtain ⟨l1,el1,o1⟩:=zqu hw oY.ok wa wa (by grind) wa y2
 have gl1:gL1 w n d=(l1,0):=by unfold gL1; rw [gy]; exact el1
 have mb1:0<b.lo.m:=zbz (by grind)
 have mb2:0<b.hi.m:=zbz (by grind)
 have bB1:=zgS hB.ok.lo.w mb1 hB.rl
 have bB2:=zgS hB.ok.hi.w mb2 hB.rh
 obtain ⟨l3,el3,o3⟩:=zqu hw hB.ok.ok wa wa bl0 (h:=10*(n:Int)) wa hB.ok.hi.b.2
 have gl3:gL3 w n d=(l3,0):=by unfold gL3; rw [gb]; exact el3
 obtain ⟨hpi,lo3⟩:=zvf (p:=w) wa
 have gq0:gQ w 0=scS (piS w 0).1 1 0:=by unfold gQ; rw [hpi.h.e]
 obtain ⟨Qc,eQ,oQ,w1,-⟩:=zes (a:=(piS w 0).1) (n:=1) hpi.h.ok wa wa
 have gq:gQ w 0=(Qc,0):=by rw [gq0]; unfold scS; rw [zd]; exact eQ
 have loQ:p2 (-64)≤val Qc.lo:=by rw [w1,show p2 1=2 from rfl]; grind
 obtain ⟨l2,el2,o2⟩:=zqu hw oQ.ok (by have:=zaV oQ.lo (n:=w+4) wa; omega) (by have:=zaV oQ.hi (n:=w+4) wa; omega) loQ (h:=2+1) wa oQ.hi.b.2
 have gl2:gL2 w=(l2,0):=by unfold gL2; rw [gq]; exact el2
 obtain ⟨M,u,v,eM,oM,-,-⟩:=zak oU o1 (p:=w) wa wa wa
 have gm:gM w n d=(M,0):=by unfold gM; rw [gu,gl1]; show st 0 zI (Qw w U l1)=_; rw [zd]; exact eM
 have gn':gN w n d=(negI Y,0):=by unfold gN; rw [gy,gm]; show st 0 zI (negI Y,0)=_; rw [zd]
 obtain ⟨C,eC,oC,-,-⟩:=zes (a:=l2) (n:=-1) o2 wa wa
 have gc:gC w=(C,0):=by unfold gC; rw [gl2]; show st 0 zI (Qu l2 (-1))=_; rw [zd]; exact eC
 obtain ⟨A,eA,oA,-⟩:=zbs (oM.mono (L':=-46264) (H':=22) wa wa) (oY.neg.mono (L':=-46264) (H':=22) wa wa) (p:=w) wa wa wa
 have gs1:gS1 w n d=(A,0):=by unfold gS1; rw [gm,gn',gc]; show st 0 zI (ZY w M (negI Y))=_; rw [zd]; exact eA
 obtain ⟨A2,eA2,oA2,-⟩:=zbs oA (oC.mono (L':=-46264) (H':=22+1) wa wa) (p:=w) wa wa wa
 have gs2:gS2 w n d=(A2,0):=by unfold gS2; rw [gs1,gc]; show st 0 zI (ZY w A C)=_; rw [zd]; exact eA2
 obtain ⟨A3,eA3,oA3⟩:=zD7 hw oY (by grind) 10 0 A2 Y wa ⟨oY.mono wa wa,by grind⟩ (oA2.mono (Int.le_refl _) wa)
 have gs3:gS3 w n d=(A3,0):=by unfold gS3; rw [gs2,gy]; exact eA3
 obtain ⟨A4,eA4,oA4,-⟩:=zl1 oA3 (d:=⟨1,-160⟩) (zcc wa wa wa) (zmI _) (p:=w) wa wa wa
 have gs4:gS4 w n d=(A4,0):=by
  unfold gS4; rw [gs3]
  generalize hd160:(⟨1,-160⟩:D)=e at *
  show st 0 zI (ZZ w A3 e)=_; rw [zd]; exact eA4
 obtain ⟨A5,eA5,oA5,-⟩:=zbs oA4 (o3.neg.mono (L':=-46264) (H':=5610+1) wa wa) (p:=w) wa wa wa
 have gs5:gS5 w n d=(A5,0):=by unfold gS5; rw [gs4,gl3]; show st 0 zI (ZY w A4 (negI l3))=_; rw [zd]; exact eA5
 have t1:=o1.le
 have t2:=o2.le
 have t3:=o3.le
 exact ⟨⟨by rw [gu],by rw [gl1],by rw [gn'],by rw [gq],by rw [gl2],by rw [gs4],by rw [gl3],by rw [gl1]; exact t1,by rw [gl2]; exact t2,by rw [gl3]; exact t3⟩,⟨by rw [gm],by rw [gc],by rw [gs1]⟩,A5,gs5,oA5.mono wa wa⟩
theorem zvU {k:Int} (hk : -9223372036854775808≤k∧k≤9223372036854775807):zfG k=zaG k:=by
 by_cases h:1≤k∧k≤10
 ·have c:k=1∨k=2∨k=3∨k=4∨k=5∨k=6∨k=7∨k=8∨k=9∨k=10:=wa
  rcases c with rfl | rfl | rfl | rfl | rfl | rfl | rfl | rfl | rfl | rfl<;>rfl
 ·have h4:¬(k == 4)=true:=by
   intro e
   have:=eq_of_beq e
   omega
  unfold zaG zkD
  rw [we (show ¬k=1 by omega),we (show ¬k=2 by omega),we h4,we (show ¬k=3 by omega),we (show ¬k=5 by omega),we (show ¬k=6 by omega),we (show ¬k=7 by omega),we (show ¬k=8 by omega),we (show ¬k=9 by omega),we (show ¬k=10 by omega)]
  unfold zfG
  by_cases h1:k<1
  ·rw [wc h1]; rfl
  ·rw [we h1,decide_eq_true wa]; rfl
theorem zqv {w:Nat} {a:I} (ha:SI a) (h:(ofR lnR a (w:Int)).2=0):zeg (iv a) (w:Int) 0=some (iv (ofR lnR a (w:Int)).1,0):=by
 unfold zeg
 rw [we wb]
 refine Eq.trans (congrArg (fun o=>Option.bind o _) (zBq ha (w:Int))) ?_
 simp only [obn]
 rw [we (by simpa using h)]
theorem zD8 {w:Nat} (hw:2≤w∧w≤400) {y b:I} (hy:SI y) (ey:Int) (x277:Int × Int):∀ (k i:Nat) (s r:I) (e:Int),i+k=11→1≤i→SI s→SI r→∀ f,k<f→
  zfR (w:Int) (iv y,ey) x277 (iv b).Lo.M.Neg (iv b).Lo.M.Mag (iv b).Lo.E (iv b).Hi.M.Neg (iv b).Hi.M.Mag (iv b).Hi.E f (i:Int) e (iv s).Lo.M.Neg (iv s).Lo.M.Mag (iv s).Lo.E (iv s).Hi.M.Neg (iv s).Hi.M.Mag (iv s).Hi.E (iv r).Lo.M.Neg (iv r).Lo.M.Mag (iv r).Lo.E (iv r).Hi.M.Neg (iv r).Hi.M.Mag (iv r).Hi.E=zoq (w:Int) x277 (iv b).Lo.M.Neg (iv b).Lo.M.Mag (iv b).Lo.E (iv b).Hi.M.Neg (iv b).Hi.M.Mag (iv b).Hi.E (gT w y k i s r e).2 (iv (gT w y k i s r e).1).Lo.M.Neg (iv (gT w y k i s r e).1).Lo.M.Mag (iv (gT w y k i s r e).1).Lo.E (iv (gT w y k i s r e).1).Hi.M.Neg (iv (gT w y k i s r e).1).Hi.M.Mag (iv (gT w y k i s r e).1).Hi.E:=by
 intro k
 induction k with
 | zero=>
  intro i s r e hi h1 hs hr f hf
  obtain ⟨f,rfl⟩:∃ k,f=k+1:=⟨f-1,wa⟩
  rw [zfR,we wa]
  rfl
 | succ k ih=>
  intro i s r e hi h1 hs hr f hf
  obtain ⟨f,rfl⟩:∃ k,f=k+1:=⟨f-1,wa⟩
  obtain ⟨b1,b2,b3,b4,b5⟩:=zvq i wa h1
  have sI1:=zA (n:=bnN i) ⟨b3,b4⟩ e
  have sI2:=zA (n:=(bnC i:Int)) wa (iS (bnN i) e).2
  have sV:=zqm hw.2 i hr e
  have sA:=ql hw.2 hs sV (gV w i r e).2
  have sM:=qd hw.2 y y (aS w s (gV w i r e).1 (gV w i r e).2).2
  rw [zfR,wc wa,zvU wa,b1]
  simp only [obn]
  rw [b2,zX]
  refine Eq.trans (congrArg (fun o=>Option.bind o _) (Zm (n:=bnN i) ⟨b3,b4⟩ e (w:Int))) ?_
  simp only [obn]
  refine Eq.trans (congrArg (fun o=>Option.bind o _) (Zm (n:=(bnC i:Int)) wa (iS (bnN i) e).2 (w:Int))) ?_
  simp only [obn]
  refine Eq.trans (congrArg (fun o=>Option.bind o _) (zam hw sI2 hr (iS (bnC i:Int) (iS (bnN i) e).2).2)) ?_
  simp only [obn]
  refine Eq.trans (congrArg (fun o=>Option.bind o _) (zc2 hw sI1 (qd hw.2 _ _ _) _)) ?_
  simp only [obn]
  rw [zX]
  refine Eq.trans (congrArg (fun o=>Option.bind o _) (zb7 hw hs sV (gV w i r e).2)) ?_
  simp only [obn]
  refine Eq.trans (congrArg (fun o=>Option.bind o _) (zam hw hy hy (aS w s (gV w i r e).1 (gV w i r e).2).2)) ?_
  simp only [obn]
  rw [zX]
  refine Eq.trans (congrArg (fun o=>Option.bind o _) (zam hw hr sM (mS w y y (aS w s (gV w i r e).1 (gV w i r e).2).2).2)) ?_
  simp only [obn]
  rw [w64 wa wa,show (i:Int)+1=((i+1:Nat):Int) by omega]
  exact ih (i+1) _ _ _ wa wa sA (qd hw.2 _ _ _) f wa
theorem zD9 {w n:Nat} (hw:2≤w∧w≤400) (hn:n≤300) {d:D} (hd:WD d) (hb:blen d.m.natAbs≤1000) (y:AI × Int) (x0:Int):∀ (k i:Nat) (b:I) (e:Int),i+k=n→SI b→∀ f,k<f→
  zfS ((n:Int),x0) (dy d) (w:Int) y f (i:Int) e (iv b).Lo.M.Neg (iv b).Lo.M.Mag (iv b).Lo.E (iv b).Hi.M.Neg (iv b).Hi.M.Mag (iv b).Hi.E=zor (w:Int) y ((n:Int),x0) (gP w d k i b e).2 (iv (gP w d k i b e).1).Lo.M.Neg (iv (gP w d k i b e).1).Lo.M.Mag (iv (gP w d k i b e).1).Lo.E (iv (gP w d k i b e).1).Hi.M.Neg (iv (gP w d k i b e).1).Hi.M.Mag (iv (gP w d k i b e).1).Hi.E:=by
 intro k
 induction k with
 | zero=>
  intro i b e hi hs f hf
  obtain ⟨f,rfl⟩:∃ k,f=k+1:=⟨f-1,wa⟩
  rw [zfS,we (by simp only; omega)]
  rfl
 | succ k ih=>
  intro i b e hi hs f hf
  obtain ⟨f,rfl⟩:∃ k,f=k+1:=⟨f-1,wa⟩
  have sP:=zmm hd hb e
  have sI:=zA (n:=(i:Int)) wa (pS d e).2
  have sA:=ql hw.2 sP sI (iS (i:Int) (pS d e).2).2
  rw [zfS,wc (by simp only; omega)]
  refine Eq.trans (congrArg (fun o=>Option.bind o _) (rPS hd e (w:Int))) ?_
  simp only [obn]
  refine Eq.trans (congrArg (fun o=>Option.bind o _) (Zm (n:=(i:Int)) wa (pS d e).2 (w:Int))) ?_
  simp only [obn]
  refine Eq.trans (congrArg (fun o=>Option.bind o _) (zb7 hw sP sI (iS (i:Int) (pS d e).2).2)) ?_
  simp only [obn]
  rw [zX]
  refine Eq.trans (congrArg (fun o=>Option.bind o _) (zam hw hs sA _)) ?_
  simp only [obn]
  rw [w64 wa wa,show (i:Int)+1=((i+1:Nat):Int) by omega]
  exact ih (i+1) _ _ wa (qd hw.2 _ _ _) f wa
theorem zvV {w n:Nat} (hw:2≤w∧w≤400) (hn:1≤n∧n≤300) {d:D} (hd:WD d) (hb:blen d.m.natAbs≤1000) (hl:zbd (dy d)=some ((n:Int),0)) (ok:GOK w n d) (z:(gM w n d).2=0∧(gC w).2=0∧(gS1 w n d).2=0):zei (dy d) (w:Int) 0=some (iv (gS5 w n d).1,(gS5 w n d).2):=by
 have sp:=QZ hd hb
 have sn:SI (intI (n:Int)):=ziV wa
 have sY:SI (gY w n d).1:=ql hw.2 sp sn 0
 have s1:=zA (n:=1) wa (gY w n d).2
 have sB:SI (gB w n d).1:=zmG hw.2 n 0 _ _ s1
 have wh:WD ⟨1,-1⟩:=Qz wa
 have sH:SI (pS ⟨1,-1⟩ (gB w n d).2).1:=zmm wh (by decide) _
 have sU:SI (gU w n d).1:=zgA hw.2 sY sH _
 have sL1:SI (gL1 w n d).1:=zdk sY ok.o1
 have sM:SI (gM w n d).1:=qd hw.2 _ _ _
 have sQ:SI (gQ w 0).1:=Zn (ziY hw.2 0) _ _
 have sL2:SI (gL2 w).1:=zdk sQ ok.o2
 have sC:SI (gC w).1:=Zn sL2 _ _
 have eN:gN w n d=(negI (gY w n d).1,0):=by
  have h:gN w n d=nS (gY w n d).1 (gM w n d).2:=rfl
  rw [h,z.1]; unfold nS; rw [zd]
 have eS1:gS1 w n d=suS w (gM w n d).1 (gY w n d).1 0:=by
  have h:gS1 w n d=aS w (gM w n d).1 (gN w n d).1 (gC w).2:=rfl
  rw [h,eN,z.2.1]; rfl
 have sS1:SI (gS1 w n d).1:=by rw [eS1]; exact zgA hw.2 sM sY 0
 have sS2:SI (gS2 w n d).1:=ql hw.2 sS1 sC _
 have sS3:SI (gS3 w n d).1:=zmH hw.2 10 1 _ _ _ sS2 sY
 have h160:=zmI (-160)
 have w160:WD ⟨1,-160⟩:=Qz ⟨by decide,by decide⟩
 have sS4:SI (gS4 w n d).1:=qV (zmd (d:=⟨1,-160⟩) sS3 h160 hw.2) (gS3 w n d).2
 have sL3:SI (gL3 w n d).1:=zdk sB ok.o3
 have gY':aS w ⟨d,d⟩ (intI (n:Int)) 0=gY w n d:=rfl
 unfold zei
 rw [hl]
 simp only [obn]
 refine Eq.trans (congrArg (fun o=>Option.bind o _) (rPS hd 0 (w:Int))) ?_
 simp only [obn]
 rw [show pS d 0=(⟨d,d⟩,0) by unfold pS; rw [zd]]
 simp only
 refine Eq.trans (congrArg (fun o=>Option.bind o _) (Zm (n:=(n:Int)) wa 0 (w:Int))) ?_
 simp only [obn]
 refine Eq.trans (congrArg (fun o=>Option.bind o _) (zb7 hw sp sn 0)) ?_
 simp only [obn]
 rw [gY']
 refine Eq.trans (congrArg (fun o=>Option.bind o _) (Zm (n:=1) wa (gY w n d).2 (w:Int))) ?_
 simp only [obn]
 refine Eq.trans (zD9 hw hn.2 hd hb (iv (gY w n d).1,(gY w n d).2) 0 n 0 (iS 1 (gY w n d).2).1 (iS 1 (gY w n d).2).2 wa s1 fuel (by unfold fuel; omega)) ?_
 have gB':gP w d n 0 (iS 1 (gY w n d).2).1 (iS 1 (gY w n d).2).2=gB w n d:=rfl
 rw [gB']
 unfold zor
 rw [ziS wa]
 simp only [obn]
 refine Eq.trans (congrArg (fun o=>Option.bind o _) (rPS wh (gB w n d).2 (w:Int))) ?_
 simp only [obn]
 refine Eq.trans (congrArg (fun o=>Option.bind o _) (zmj hw sY sH (pS ⟨1,-1⟩ (gB w n d).2).2)) ?_
 simp only [obn]
 have gU':suS w (gY w n d).1 (pS ⟨1,-1⟩ (gB w n d).2).1 (pS ⟨1,-1⟩ (gB w n d).2).2=gU w n d:=rfl
 rw [gU',ok.eu]
 refine Eq.trans (congrArg (fun o=>Option.bind o _) (zqv sY ok.e1)) ?_
 simp only [obn]
 have gL1':ofR lnR (gY w n d).1 (w:Int)=gL1 w n d:=rfl
 rw [gL1']
 refine Eq.trans (congrArg (fun o=>Option.bind o _) (zam hw sU sL1 0)) ?_
 simp only [obn]
 have gM':mS w (gU w n d).1 (gL1 w n d).1 0=gM w n d:=rfl
 rw [gM',z.1]
 refine Eq.trans (congrArg (fun o=>Option.bind o _) (zmj hw sM sY 0)) ?_
 simp only [obn]
 rw [← eS1,z.2.2]
 refine Eq.trans (congrArg (fun o=>Option.bind o _) (zA6 hw 0)) ?_
 simp only [obn]
 refine Eq.trans (congrArg (fun o=>Option.bind o _) (zeu (ziY hw.2 0) (n:=1) wa (piS w 0).2 (w:Int))) ?_
 simp only [obn]
 have gQ':scS (piS w 0).1 1 (piS w 0).2=gQ w 0:=rfl
 rw [gQ',ok.eq]
 refine Eq.trans (congrArg (fun o=>Option.bind o _) (zqv sQ ok.e2)) ?_
 simp only [obn]
 have gL2':ofR lnR (gQ w 0).1 (w:Int)=gL2 w:=rfl
 rw [gL2']
 refine Eq.trans (congrArg (fun o=>Option.bind o _) (zeu sL2 (n:=-1) wa 0 (w:Int))) ?_
 simp only [obn]
 have gC':scS (gL2 w).1 (-1) 0=gC w:=rfl
 rw [gC',z.2.1]
 refine Eq.trans (congrArg (fun o=>Option.bind o _) (zb7 hw sS1 sC 0)) ?_
 simp only [obn]
 have gS':aS w (gS1 w n d).1 (gC w).1 0=gS2 w n d:=by
  have h:gS2 w n d=aS w (gS1 w n d).1 (gC w).1 (gS1 w n d).2:=rfl
  rw [h,z.2.2]
 rw [gS']
 refine Eq.trans (zD8 hw sY (gY w n d).2 ((n:Int),0) 10 1 (gS2 w n d).1 (gY w n d).1 (gS2 w n d).2 wa wa sS2 sY fuel (by unfold fuel; omega)) ?_
 have gS3':gT w (gY w n d).1 10 1 (gS2 w n d).1 (gY w n d).1 (gS2 w n d).2=gS3 w n d:=rfl
 rw [gS3']
 unfold zoq
 rw [ziS wa]
 simp only [obn]
 rw [zX]
 have kw:=ztw sS3.ok w160 h160 hw (gS3 w n d).2
 have gS4':st (gS3 w n d).2 zI (ZZ w (gS3 w n d).1 ⟨1,-160⟩)=gS4 w n d:=rfl
 rw [gS4'] at kw
 refine Eq.trans (congrArg (fun o=>Option.bind o _) kw) ?_
 simp only [obn]
 rw [ok.es,wc (show ((n:Int),(0:Int)).1>0 by simp only; omega),zX]
 refine Eq.trans (congrArg (fun o=>Option.bind o _) (zqv sB ok.e3)) ?_
 simp only [obn]
 have gL3':ofR lnR (gB w n d).1 (w:Int)=gL3 w n d:=rfl
 rw [gL3']
 have e5:gS5 w n d=suS w (gS4 w n d).1 (gL3 w n d).1 0:=rfl
 rw [e5]
 clear ok
 generalize (gS4 w n d).1=a4 at *
 generalize (gL3 w n d).1=a3 at *
 refine Eq.trans (congrArg (fun o=>Option.bind o _) (zmj hw sS4 sL3 0)) ?_
 rfl
def zau (d:D) (p:Int):Int:=if p<2 then 1 else if p>64 then 1 else if blen d.m.natAbs>200 then 1 else if zp d zD≤0 then 3 else if zp d (fromD 64)>0 then 4 else if zp d ⟨1,-64⟩<0 then 4 else 0
theorem zEa (d:D):zp d zD≤0↔d.m≤0:=by
 rw [zcQ,qT]
 have hp:=zb d.e
 have e:val d=(d.m:Rat)*p2 d.e:=rfl
 constructor
 ·intro h
  rcases Int.lt_or_le 0 d.m with k | k
  ·exfalso
   have k1:(1:Rat)≤(d.m:Rat):=by
    have:=Zl (show (1:Int)≤d.m by omega)
    exact this
   have:=Rat.mul_le_mul_of_nonneg_right k1 (Rat.le_of_lt hp)
   grind
  ·exact k
 ·intro h
  have k1:(d.m:Rat)≤0:=Zl h
  have:=Rat.mul_le_mul_of_nonneg_right k1 (Rat.le_of_lt hp)
  grind
theorem zmO {d:D} (hd:WD d) (p:Int):Qn (dy d) p=some (zau d p):=by
 unfold Qn zau
 by_cases h1:p<2
 ·rw [wc h1,wc h1]; rfl
 rw [we h1,we h1]
 by_cases h2:p>64
 ·rw [wc h2,wc h2]; rfl
 rw [we h2,we h2,ZX hd.1 hd.sz]
 simp only [obn]
 rw [we wb,zmg hd.sz]
 simp only [obn]
 by_cases h3:blen d.m.natAbs>200
 ·rw [decide_eq_true (show ((blen d.m.natAbs:Nat):Int)>200 by omega),wc h3]; rfl
 rw [decide_eq_false (show ¬((blen d.m.natAbs:Nat):Int)>200 by omega),we h3]
 unfold zdH zhl
 rw [we wb,← qp]
 refine Eq.trans (congrArg (fun o=>Option.bind o _) (Ze hd qj)) ?_
 simp only [obn]
 by_cases h4:zp d zD≤0
 ·rw [wc h4,wc h4]
 rw [we h4,we h4,zoW wa]
 simp only [obn]
 refine Eq.trans (congrArg (fun o=>Option.bind o _) (Ze hd (zb1 (n:=64) wa))) ?_
 simp only [obn]
 by_cases h5:zp d (fromD 64)>0
 ·rw [wc h5,wc h5,wc True.intro]
 rw [we h5,we h5,zgi wa]
 simp only [obn]
 refine Eq.trans (congrArg (fun o=>Option.bind o _) (Ze hd (Qz (k:=-64) wa))) ?_
 simp only [obn]
 by_cases h6:zp d ⟨1,-64⟩<0
 ·rw [decide_eq_true h6,wc rfl,wc h6]
 ·rw [decide_eq_false h6,we wb,we h6]
theorem zEb (n:Nat):(((digs n).length:Int) == 0)=decide (n=0):=by
 by_cases h:n=0
 ·subst h; rw [qJ]; rfl
 ·have k:(digs n).length≠0:=by
   intro e
   have:=dvd n
   rw [List.length_eq_zero_iff.1 e] at this
   exact h this.symm
  rw [decide_eq_false h]
  simpa using k
theorem zgU {d:D} (hd:WD d) (p:Int):zbc (dy d) p=some (zau d p):=by
 unfold zbc zau
 rw [Za hd.1 hd.sz]
 simp only [obn]
 rw [we wb]
 by_cases h1:p<2
 ·rw [wc h1,wc h1]; rfl
 rw [we h1,we h1]
 by_cases h2:p>64
 ·rw [wc h2,wc h2]; rfl
 rw [we h2,we h2,zpF hd.sz]
 simp only [obn]
 by_cases h3:blen d.m.natAbs>200
 ·rw [decide_eq_true (show ((blen d.m.natAbs:Nat):Int)>200 by omega),wc h3]; rfl
 rw [decide_eq_false (show ¬((blen d.m.natAbs:Nat):Int)>200 by omega),we h3]
 unfold zhV
 rw [we wb]
 have sc:=zEa d
 have key:zkL (dy d) (decide (zp d zD≤0))=some (if zp d zD≤0 then 3 else if zp d (fromD 64)>0 then 4 else if zp d ⟨1,-64⟩<0 then 4 else 0):=by
  unfold zkL zob
  by_cases h4:zp d zD≤0
  ·rw [decide_eq_true h4,wc rfl,wc h4]
  rw [decide_eq_false h4,we wb,we h4,zgv wa]
  simp only [obn]
  refine Eq.trans (congrArg (fun o=>Option.bind o _) (zb2 hd (zb1 (n:=64) wa))) ?_
  simp only [obn]
  by_cases h5:zp d (fromD 64)>0
  ·rw [wc h5,wc h5,wc True.intro]
  rw [we h5,we h5,ziS wa]
  simp only [obn]
  refine Eq.trans (congrArg (fun o=>Option.bind o _) (zb2 hd (Qz (k:=-64) wa))) ?_
  simp only [obn]
  by_cases h6:zp d ⟨1,-64⟩<0
  ·rw [decide_eq_true h6,wc rfl,wc h6]
  ·rw [decide_eq_false h6,we wb,we h6]
 have hm:(dy d).M.Mag=digs d.m.natAbs:=rfl
 rw [zpI,hm,zEb]
 by_cases hn:d.m<0
 ·rw [wc (decide_eq_true hn)]
  rw [decide_eq_true (sc.2 wa)] at key
  exact key
 ·rw [we (by simpa using hn)]
  rw [show decide (zp d zD≤0)=decide (d.m.natAbs=0) by
   by_cases h0:d.m.natAbs=0
   ·rw [decide_eq_true h0,decide_eq_true (sc.2 wa)]
   ·rw [decide_eq_false h0,decide_eq_false (fun k=>h0 (by have:=sc.1 k; omega))]] at key
  exact key
theorem zmP {d:D} (hd:WD d) {p:Int} (h:zau d p=0):GP d p:=by
 unfold zau at h
 split at h
 ·cases h
 split at h
 ·cases h
 split at h
 ·cases h
 split at h
 ·cases h
 split at h
 ·cases h
 split at h
 ·cases h
 rename_i h1 h2 h3 h4 h5 h6
 refine ⟨hd,wa,?_,?_,wa⟩
 ·have:=fun k=>h6 ((zgf _ _).2 k)
  rw [qC] at this
  exact Rat.not_lt.1 this
 ·have:=fun k=>h5 ((zlz _ _).2 k)
  rw [QD] at this
  exact Rat.not_lt.1 this
theorem zvW {x:AD} (h1:Zc x=some false) (h2:qB x=some false) (p:Int):Qn x p=some 1∧zbc x p=some 1:=by
 constructor
 ·unfold Qn
  by_cases k1:p<2
  ·rw [wc k1]; rfl
  rw [we k1]
  by_cases k2:p>64
  ·rw [wc k2]; rfl
  rw [we k2,h1]
  simp only [obn]
  rw [wc wb]; rfl
 ·unfold zbc
  rw [h2]
  simp only [obn]
  rw [wc wb]; rfl
theorem zqw {d:D} {p:Int} (h:GP d p):zbd (dy d)=some ((gn d:Int),0):=by
 have f0:=zgU h.w 2
 have g0:=zmO h.w 2
 rw [zjh (d:=d) (p:=2) ⟨h.w,h.b,h.lo,h.hi,wa⟩] at g0
 rw [← Option.some.inj g0] at f0
 obtain ⟨k1,k2,k3,k4⟩:=zgT h
 unfold zbd
 rw [f0]
 simp only [obn]
 rw [we wb,zBu h.w]
 simp only [obn]
 have hfl:zbw d=(((fK d:Nat):Int),0):=by unfold zbw; rw [wc (zvs h),k4]
 rw [hfl]
 simp only
 rw [zBx (by rw [Int.natAbs_natCast]; exact zuh (k:=7) wa wa)]
 simp only [obn]
 have hs:zc5 ((fK d:Nat):Int)=(((fK d:Nat):Int),true):=by unfold zc5; rw [wc wa]
 rw [hs]
 simp only
 rw [w64 wa wa]
 have:(256:Int)-(fK d:Nat)=(gn d:Int):=by unfold gn; omega
 rw [this]
theorem zvX {d:D} {p:Int} (h:GP d p):256≤val d+(gn d:Rat)∧val d+(gn d:Rat)≤257:=by
 obtain ⟨k1,k2,k3,k4⟩:=zgT h
 have e:(gn d:Rat)+(fK d:Rat)=256:=by
  have:gn d+fK d=256:=by unfold gn; omega
  have h2:((gn d+fK d:Nat):Rat)=((256:Nat):Rat):=by rw [this]
  rw [Rat.natCast_add] at h2
  exact h2
 exact ⟨by grind,by grind⟩
theorem zEc {x:AD} (h:(∃ d,WD d∧x=dy d)∨(Zc x=some false∧qB x=some false)):∃ l,zaB x=some l∧zbd x=some l:=by
 have bad:∀ e:Int,¬e=0→Qn x 2=some e→zbc x 2=some e→∃ l,zaB x=some l∧zbd x=some l:=by
  intro e he e1 e2
  refine ⟨(0,e),?_,?_⟩
  ·unfold zaB; rw [e1]; simp only [obn]; rw [wc he]
  ·unfold zbd; rw [e2]; simp only [obn]; rw [wc he]
 rcases h with ⟨d,hd,rfl⟩ | ⟨h1,h2⟩
 ·by_cases h0:zau d 2=0
  ·exact ⟨_,zji (zmP hd h0),zqw (zmP hd h0)⟩
  ·exact bad _ h0 (zmO hd 2) (zgU hd 2)
 ·have:=zvW h1 h2 2
  exact bad 1 (by decide) this.1 this.2
theorem zEd {a:I} (h1:WD a.lo) (h2:WD a.hi) (h:¬val a.lo≤val a.hi):QJ (iv a)=some false:=by
 unfold QJ zhq
 rw [zM,zR,ZX h1.1 h1.sz]
 simp only [obn,if_true]
 rw [ZX h2.1 h2.sz]
 simp only [obn,if_true]
 rw [Ze h1 h2]
 simp only [obn]
 congr 1
 exact decide_eq_false fun k=>h ((zcQ _ _).1 k)
theorem zEe {a:I} (h1:WD a.lo) (h2:WD a.hi) (h:¬val a.lo≤val a.hi):Qr (iv a)=some false:=by
 unfold Qr zhQ
 rw [zM,zR,Za h1.1 h1.sz]
 simp only [obn]
 rw [Za h2.1 h2.sz]
 simp only [obn]
 rw [wc True.intro,wc True.intro,zb2 h1 h2]
 simp only [obn]
 congr 1
 exact decide_eq_false fun k=>h ((zcQ _ _).1 k)
theorem zEf {a:I} (h1:WD a.lo) (h2:WD a.hi) (h:¬val a.lo≤val a.hi) (p:Int):zcz (iv a) 0 p=some (iv zI,1)∧zef (iv a) p 0=some (iv zI,1):=by
 obtain ⟨f,hf⟩:=zai
 have r1:=zEd h1 h2 h
 have r2:=zEe h1 h2 h
 constructor
 ·have k:ZS [iv a] 0 p=some (false,1):=by
   unfold ZS
   rw [hf,za6,wc wb,wc wb]
   show ((QJ (iv a)).bind _)=_
   rw [r1]
   simp only [obn]
   rw [wc wb]
   rfl
  unfold zcz
  rw [k]
  simp only [obn]
  rw [wc wb,zw]
 ·have k:ZD [iv a] p 0=some (false,1):=by
   unfold ZD
   rw [hf,zbP,wc wb,wc wb]
   show ((Qr (iv a)).bind _)=_
   rw [r2]
   simp only [obn]
   rw [wc wb]
   rfl
  unfold zef
  rw [k]
  simp only [obn]
  rw [wc wb,zw]
theorem zEg {a:I} (h1:WD a.lo) (h2:WD a.hi) (b1:blen a.lo.m.natAbs≤1000) (b2:blen a.hi.m.natAbs≤1000) {p:Nat} (hp:2≤p∧p≤400) (w w':Int):∃ R:I × Int,SI R.1∧zaH (iv a) (p:Int) 0 0 w=some (iv R.1,R.2)∧QO (iv a) (p:Int) w' 0=some (iv R.1,R.2):=by
 by_cases h:val a.lo≤val a.hi
 ·have S:SI a:=⟨⟨h1,h2,h⟩,b1,b2⟩
  exact ⟨zz p (a,0),zev S wa,zjj S hp 0 w,zi0 S hp w' 0⟩
 ·obtain ⟨o1,o2⟩:=zEf h1 h2 h (p:Int)
  refine ⟨(zI,1),zO,?_,?_⟩
  ·unfold zaH zdO Qp
   simp only [obn]
   rw [we wb]
   simp only [obn]
   rw [we wb,zgt hp]
   simp only [obn]
   refine Eq.trans (congrArg (fun o=>Option.bind o _) o1) ?_
   rfl
  ·unfold QO
   rw [we wb,zgw hp]
   simp only [obn]
   refine Eq.trans (congrArg (fun o=>Option.bind o _) o2) ?_
   rfl
theorem zEh {d:D} (hd:WD d) (p:Int):∃ R:I × Int,SI R.1∧zbe (dy d) p=some (iv R.1,R.2)∧zbR (dy d) p=some (iv R.1,R.2):=by
 by_cases h0:zau d p=0
 ·have h:=zmP hd h0
  obtain ⟨p,rfl⟩:∃ n:Nat,p=(n:Int):=⟨p.toNat,by have:=h.p; omega⟩
  have hp:=h.p
  have hn:=zjk h
  have hb:blen d.m.natAbs≤1000:=by have:=h.b; omega
  have hw:2≤p+64∧p+64≤400:=wa
  obtain ⟨q1,q2⟩:=zvX h
  obtain ⟨ok,z,c,ec,oc⟩:=zvT (zvR h) h.lo (w:=p+64) wa (n:=gn d) wa q1 q2
  have S:=zmJ hw.2 h.w hb wa ok
  have k2:=zvV hw wa h.w hb (zqw h) ok z
  refine ⟨gLR d (p+64) p,zev S wa,zDn h ok,?_⟩
  unfold zbR
  rw [zgU hd,h0]
  simp only [obn]
  rw [we wb,w64 wa wa,show (p:Int)+64=((p+64:Nat):Int) by omega,zgw hw]
  simp only [obn]
  refine Eq.trans (congrArg (fun o=>Option.bind o _) k2) ?_
  simp only [obn]
  unfold gLR
  clear k2 ok z ec
  generalize gS5 (p+64) (gn d) d=r at *
  have kd:=zi0 S (p:=p) wa ((p+64:Nat):Int) r.2
  refine Eq.trans (congrArg (fun o=>Option.bind o _) kd) ?_
  rfl
 ·refine ⟨(zI,zau d p),zO,?_,?_⟩
  ·unfold zbe
   rw [zmO hd]
   simp only [obn]
   rw [wc h0,zw]
  ·unfold zbR
   rw [zgU hd]
   simp only [obn]
   rw [wc h0,zw]
theorem zEi {f:D→Int→I × Int} {l:I} {p:Int} (sl:SI (f l.lo p).1) (sh:SI (f l.hi p).1):(ofR f l p).2≠0∨((WD (ofR f l p).1.lo∧WD (ofR f l p).1.hi)∧blen (ofR f l p).1.lo.m.natAbs≤1000∧blen (ofR f l p).1.hi.m.natAbs≤1000):=by
 unfold ofR
 generalize f l.lo p=A at *
 generalize f l.hi p=K at *
 by_cases c0:(fitB l.lo p && fitB l.hi p)=true
 ·rw [wc c0]
  by_cases c1:A.2≠0
  ·rw [wc c1]; exact Or.inl c1
  ·rw [we c1]
   by_cases c2:K.2≠0
   ·rw [wc c2]; exact Or.inl c2
   ·rw [we c2]
    exact Or.inr ⟨⟨sl.ok.1,sh.ok.2.1⟩,sl.lo,sh.hi⟩
 ·rw [we c0]; left; decide
theorem zEj {d:D} {p:Nat} (h:GP d (p:Int)) {r l:I} {g:I × Int} (k1:zdZ (dy d) 0 0 ((p+96:Nat):Int)=some (iv r,0)) (d1:zaH (iv r) ((p+64:Nat):Int) 0 0 ((p+96:Nat):Int)=some (iv l,0)) (x1:zfv (iv l) ((p+32:Nat):Int)=some (iv g.1,g.2)) (R:I × Int) (hR:g.2≠0→R=(zI,g.2)) (hG:g.2=0→zaH (iv g.1) (p:Int) 0 0 ((p+96:Nat):Int)=some (iv R.1,R.2)):Zr (dy d) (p:Int)=some (iv R.1,R.2):=by
 have hp:=h.p
 unfold Zr
 rw [zjh h]
 simp only [obn]
 rw [we wb,w64 (x:=(p:Int)+64) wa wa,w64 (x:=(p:Int)+64+32) wa wa,show (p:Int)+64+32=((p+96:Nat):Int) by omega,zqo (w:=p+96) wa]
 simp only [obn]
 refine Eq.trans (congrArg (fun o=>Option.bind o _) k1) ?_
 simp only [obn]
 rw [show (p:Int)+64=((p+64:Nat):Int) by omega]
 refine Eq.trans (congrArg (fun o=>Option.bind o _) d1) ?_
 simp only [obn]
 rw [we wb,w64 wa wa,show (p:Int)+32=((p+32:Nat):Int) by omega]
 refine Eq.trans (congrArg (fun o=>Option.bind o _) x1) ?_
 simp only [obn]
 by_cases e:g.2=0
 ·rw [we (by simpa using e)]
  refine Eq.trans (congrArg (fun o=>Option.bind o _) (hG e)) ?_
  rfl
 ·rw [wc e,hR e,zw]
theorem zEk {d:D} (hd:WD d) {p:Nat} (hp:2≤p∧p≤64) (h0:zau d (p:Int)=0) {r l:I} {g:I × Int} (k1:zei (dy d) ((p+96:Nat):Int) 0=some (iv r,0)) (d1:QO (iv r) ((p+64:Nat):Int) ((p+96:Nat):Int) 0=some (iv l,0)) (x1:zfZ (iv l) ((p+32:Nat):Int)=some (iv g.1,g.2)) (R:I × Int) (hR:g.2≠0→R=(zI,g.2)) (hG:g.2=0→QO (iv g.1) (p:Int) ((p+96:Nat):Int) 0=some (iv R.1,R.2)):zaN (dy d) (p:Int)=some (iv R.1,R.2):=by
 unfold zaN
 rw [zgU hd,h0]
 simp only [obn]
 rw [we wb,w64 (x:=(p:Int)+96) wa wa,show (p:Int)+96=((p+96:Nat):Int) by omega,zgw (p:=p+96) wa]
 simp only [obn]
 refine Eq.trans (congrArg (fun o=>Option.bind o _) k1) ?_
 simp only [obn]
 rw [w64 (x:=(p:Int)+64) wa wa,show (p:Int)+64=((p+64:Nat):Int) by omega]
 refine Eq.trans (congrArg (fun o=>Option.bind o _) d1) ?_
 simp only [obn]
 rw [we wb,w64 wa wa,show (p:Int)+32=((p+32:Nat):Int) by omega]
 refine Eq.trans (congrArg (fun o=>Option.bind o _) x1) ?_
 simp only [obn]
 by_cases e:g.2=0
 ·rw [we (by simpa using e)]
  refine Eq.trans (congrArg (fun o=>Option.bind o _) (hG e)) ?_
  rfl
 ·rw [wc e,hR e,zw]
theorem zEl {d:D} (hd:WD d) (p:Int):∃ R:I × Int,SI R.1∧Zr (dy d) p=some (iv R.1,R.2)∧zaN (dy d) p=some (iv R.1,R.2):=by
 by_cases h0:zau d p=0
 ·have h:=zmP hd h0
  obtain ⟨p,rfl⟩:∃ n:Nat,p=(n:Int):=⟨p.toNat,by have:=h.p; omega⟩
  have hp:=h.p
  have hn:=zjk h
  have hb:blen d.m.natAbs≤1000:=by have:=h.b; omega
  have hw:2≤p+96∧p+96≤400:=wa
  obtain ⟨q1,q2⟩:=zvX h
  obtain ⟨ok,z,c,ec,oc⟩:=zvT (zvR h) h.lo (w:=p+96) wa (n:=gn d) wa q1 q2
  have S:=zmJ hw.2 h.w hb wa ok
  have k1:=zqn hw wa h.w hb (zji h) ok
  have k2:=zvV hw wa h.w hb (zqw h) ok z
  clear ok z
  generalize gS5 (p+96) (gn d) d=r at *
  subst ec
  obtain ⟨l,el,ol,-⟩:=ziO oc (p:=p+64) wa wa wa
  have eL:zz (p+64) (c,0)=(l,0):=by unfold zz; rw [zd]; exact el
  have d1:=zjj S (p:=p+64) wa 0 ((p+96:Nat):Int)
  have d2:=zi0 S (p:=p+64) wa ((p+96:Nat):Int) 0
  have SL:SI (zz (p+64) (c,0)).1:=zev S wa
  simp only at d1 d2 k1 k2
  rw [eL] at d1 d2 SL
  have x1:=zug SL ((p+32:Nat):Int)
  have x2:=zBo SL ((p+32:Nat):Int)
  have key:=zEi (f:=expR) (l:=l) (p:=((p+32:Nat):Int)) zmi zmi
  simp only at x1 x2
  generalize ofR expR l ((p+32:Nat):Int)=g at *
  have g1:=zEj h k1 d1 x1
  have g2:=zEk hd wa h0 k2 d2 x2
  have no:g.2≠0→∃ R:I × Int,SI R.1∧Zr (dy d) (p:Int)=some (iv R.1,R.2)∧zaN (dy d) (p:Int)=some (iv R.1,R.2):=fun e=>
   ⟨(zI,g.2),zO,g1 _ (fun _=>rfl) (fun k=>absurd k e),g2 _ (fun _=>rfl) (fun k=>absurd k e)⟩
  rcases key with e | ⟨⟨a1,a2⟩,a3,a4⟩
  ·exact no e
  ·by_cases e:g.2=0
   ·obtain ⟨R,sR,r1,r2⟩:=zEg a1 a2 a3 a4 (p:=p) wa ((p+96:Nat):Int) ((p+96:Nat):Int)
    exact ⟨R,sR,g1 R (fun k=>absurd e k) (fun _=>r1),g2 R (fun k=>absurd e k) (fun _=>r2)⟩
   ·exact no e
 ·refine ⟨(zI,zau d p),zO,?_,?_⟩
  ·unfold Zr
   rw [zmO hd]
   simp only [obn]
   rw [wc h0,zw]
  ·unfold zaN
   rw [zgU hd]
   simp only [obn]
   rw [wc h0,zw]
theorem zEm {x:AD} (hx:gAD x):zhT x 8=some ⟨⟨x.M.Neg,x.M.Mag.take (min x.M.Mag.length 8)⟩,x.E⟩:=by
 have hl:x.M.Mag.length≤9223372036854775807:=by have:=hx.1.2.1; unfold maxLen at this; omega
 have hm:mn (x.M.Mag.length:Int) 8=((min x.M.Mag.length 8:Nat):Int):=by unfold mn; split<;>omega
 unfold zhT
 rw [hm,wc wa,Int.toNat_natCast]
theorem zvY {x y:I} (hx:okI x):zfV (iv x) (iv y)=some (decide (x=y)):=by
 unfold zfV
 rw [zzY hx]; rfl
theorem zEn {x:AD} {p:Int} {r c:I × Int} (hr:SI r.1) (hc:SI c.1) (e1:zbe x p=some (iv r.1,r.2)) (e2:zbR x p=some (iv r.1,r.2)) (f1:Zr x p=some (iv c.1,c.2)) (f2:zaN x p=some (iv c.1,c.2)) (b:Bool):zbS b x p true false=some true:=by
 unfold zbS zf0 zf1
 rw [we wb]
 cases b with
 | true=>
  rw [wc rfl,zmh,e1]
  simp only [obn]
  rw [e2]
  simp only [obn]
  refine Eq.trans (congrArg (fun o=>Option.bind o _) (zvY hr.ok)) ?_
  simp only [obn]
  rw [wc True.intro,wc wb]
  simp
 | false=>
  rw [we wb,zmh,f1]
  simp only [obn]
  rw [f2]
  simp only [obn]
  refine Eq.trans (congrArg (fun o=>Option.bind o _) (zvY hc.ok)) ?_
  simp only [obn]
  rw [wc True.intro,wc wb]
  simp
theorem zEo (a0:AD) (g0:gAD a0) (a1:Int) (g1:(Lit.int .i64 a1).wf=true) (a2:Int) (g2:(Lit.int .i64 a2).wf=true) (a3:Bool) (g3:True):zla a0 a1 a2 a3=some true:=by
 obtain ⟨h1,h2⟩:=zBn g0 8 wa
 have hc:=zEm g0
 generalize hx:(⟨⟨a0.M.Neg,a0.M.Mag.take (min a0.M.Mag.length 8)⟩,a0.E⟩:AD)=x at *
 have hd:(∃ d,WD d∧x=dy d)∨(Zc x=some false∧qB x=some false):=by
  rcases zBm (x:=x) (by rw [← hx]; exact h1) (by rw [← hx]; exact h2) with ⟨d,hd,hb,e⟩ | h
  ·exact Or.inl ⟨d,hd,e⟩
  ·exact Or.inr h
 obtain ⟨l,l1,l2⟩:=zEc hd
 obtain ⟨b,b1,-⟩:=zDY a2
 have b2:=zvU (zzW g2)
 rw [b1] at b2
 have key:∃ r c:I × Int,(SI r.1∧SI c.1)∧(zbe x a1=some (iv r.1,r.2)∧zbR x a1=some (iv r.1,r.2))∧Zr x a1=some (iv c.1,c.2)∧zaN x a1=some (iv c.1,c.2):=by
  rcases hd with ⟨d,hd,rfl⟩ | ⟨k1,k2⟩
  ·obtain ⟨r,s,e1,e2⟩:=zEh hd a1
   obtain ⟨c,t,f1,f2⟩:=zEl hd a1
   exact ⟨r,c,⟨s,t⟩,⟨e1,e2⟩,f1,f2⟩
  ·obtain ⟨q1,q2⟩:=zvW k1 k2 a1
   refine ⟨(zI,1),(zI,1),⟨zO,zO⟩,⟨?_,?_⟩,?_,?_⟩
   ·unfold zbe; rw [q1]; simp only [obn]; rw [wc (by decide),zw]
   ·unfold zbR; rw [q2]; simp only [obn]; rw [wc (by decide),zw]
   ·unfold Zr; rw [q1]; simp only [obn]; rw [wc (by decide),zw]
   ·unfold zaN; rw [q2]; simp only [obn]; rw [wc (by decide),zw]
 obtain ⟨r,c,⟨s,t⟩,⟨e1,e2⟩,f1,f2⟩:=key
 unfold zla
 rw [zD1]
 simp only [obn]
 rw [we wb,hc]
 simp only [obn]
 rw [zmh,l1]
 simp only [obn]
 rw [l2]
 simp only [obn]
 rw [b1]
 simp only [obn]
 rw [b2]
 simp only [obn]
 rw [we wb,we wb,we wb,we wb,show (b.2.2 != b.2.2)=false by simp]
 exact zEn s t e1 e2 f1 f2 a3
end Go.Proofs.YtjffljhmjdljeaaGreat.Gen
