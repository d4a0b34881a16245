/- For every input TopPhases returns true, and each argument reads behind the call as it read before: part 6 of the proof. -/
import Derived.Test.YteelgjcnkhmigaaGreatDoorA5
set_option linter.unusedVariables false
set_option linter.unusedSimpArgs false
set_option linter.unusedSectionVars false
set_option maxHeartbeats 0
set_option maxRecDepth 100000
namespace Go.Proofs.YteelgjcnkhmigaaGreatDoor.K
open Go.RowKit Go.Proofs.YteelgjcnkhmigaaGreatDoor.E
theorem arq:ab [([leq 211 (c 64)],leq 211 (c 1000000)),
([eql 406 (c 0)],leq (c 0) 406),
([eql 406 (c 0)],leq 406 (.nat 21)),
([leq (c 0) 406,lss 406 (.nat 21)],lss 406 21),
([eql 407 (c 0)],eql (c 0) 407),
([eql 407 (c 0)],leq (c 0) 407),
([eql 407 (c 0)],leq 407 (c 1000000)),
([eql 412 (wx (.add 406 (c 1))),lss 406 (.nat 21),leq 21 (c 4611686018427387904)],lss (.nat (.sub (.nat 21) 412)) (.nat (.sub (.nat 21) 406))),
([eql 412 (wx (.add 406 (c 1))),leq (c 0) 406,leq 406 (.nat 21),leq 21 (c 4611686018427387904)],leq (c 0) 412),
([eql 412 (wx (.add 406 (c 1))),leq (c 0) 406,lss 406 (.nat 21)],leq 412 (.nat 21)),
([eql 15437 15427,eql 15427 314],eql 15437 314),
([eql 15455 315,eql 315 (c 0)],fb (ix (ex 15469 (c 0)) (ex 15455 (c 0)) (.lit true))),
([eql 15455 315,eql 315 (c 0)],leq (c 0) 15455),
([eql 15455 315,eql 315 (c 0)],leq 15455 (c 1000000)),
([eql 15459 316,eql 316 (c 0)],leq (c 0) 15459),
([eql 15459 316,eql 316 (c 0)],leq 15459 (c 1000000)),
([eql 15460 317,eql 317 (c 0)],leq (c 0) 15460),
([eql 15460 317,eql 317 (c 0)],leq 15460 (c 1000000)),
([eql 15461 318,eql 318 (c 0)],leq (c 0) 15461),
([eql 15461 318,eql 318 (c 0)],leq 15461 (c 1000000)),
([eql 15463 319,eql 319 (c 0)],leq (c 0) 15463),
([eql 15463 319,eql 319 (c 0)],leq 15463 (c 1000000)),
([eql 15468 320,leq (c 0) 320],leq (c 0) 15468),
([eql 15468 320,leq 320 (c 64)],leq 15468 (c 1000000)),
([eql 15462 (c 0)],leq (c 0) 15462),
([eql 15462 (c 0)],leq 15462 (c 1)),
([eql 15438 (c 1)],leq (c 0) 15438),
([eql 15438 (c 1)],leq 15438 (c 2)),
([eql 15436 (c 0)],leq (c 0) 15436),
([eql 15436 (c 0)],leq 15436 (.nat 21)),
([leq (c 0) 15436,lss 15436 (.nat 21)],lss 15436 21),
([fb (ix (ex 15469 (c 0)) (ex 15455 (c 0)) (.lit true))],.imp (ex 15469 (c 0)) (eql 15455 (c 0))),
([eql 15749 314,eql 15437 314],eql 15749 15437),
([eql 15437 314,leq (c 0) 314],leq (c 0) 15437),
([eql 15437 314,leq 314 (c 64)],leq 15437 (c 1000000)),
([eql 15790 (c 0)],leq (c 0) 15790),
([eql 15790 (c 0)],leq 15790 (.nat 15778)),
([eql 15778 314,eql 15749 314,lss 15790 (.nat 15778)],lss 15790 (.nat 15749)),
([leq (c 0) 15790,eql 15778 314,eql 15749 314,lss 15790 (.nat 15778)],lss (.nat 15790) (.nat 15749)),
([eql 15778 314,eql 15749 314,lss 15790 (.nat 15778)],lss 15790 (.nat 15749)),
([leq (c 0) 15790,eql 15778 314,eql 15749 314,lss 15790 (.nat 15778)],lss (.nat 15790) (.nat 15749)),
([eql 15791 (wx (.add 15790 (c 1))),eql 15778 314,leq 314 (c 64),lss 15790 (.nat 15778)],lss (.nat (.sub (.nat 15778) 15791)) (.nat (.sub (.nat 15778) 15790))),
([eql 15791 (wx (.add 15790 (c 1))),leq (c 0) 15790,lss 15790 (.nat 15778)],leq 15791 (.nat 15778)),
([eql 20790 (c 0)],leq (c 0) 20790),
([eql 20790 (c 0)],leq 20790 (.nat 15749)),
([eql 20791 (wx (.add 20790 (c 1))),eql 15749 314,leq 314 (c 64),lss 20790 (.nat 15749)],lss (.nat (.sub (.nat 15749) 20791)) (.nat (.sub (.nat 15749) 20790))),
([eql 20791 (wx (.add 20790 (c 1))),leq (c 0) 20790,leq 20790 (.nat 15749),eql 15749 314,leq 314 (c 64)],leq (c 0) 20791),
([eql 20791 (wx (.add 20790 (c 1))),leq (c 0) 20790,lss 20790 (.nat 15749)],leq 20791 (.nat 15749)),
([eql 25790 (wx (.add 15436 (c 1))),lss 15436 (.nat 21),leq 21 (c 4611686018427387904)],lss (.nat (.sub (.nat 21) 25790)) (.nat (.sub (.nat 21) 15436))),
([eql 25791 15749,eql 15749 314],eql 25791 314),
([eql 25809 15487,leq (c 0) 15487],leq (c 0) 25809),
([eql 25809 15487,leq 15487 (c 1000000)],leq 25809 (c 1000000)),
([eql 25813 15455,leq (c 0) 15455,leq (c 0) 15455],leq (c 0) 25813),
([eql 25813 15455,leq 15455 (c 1000000),leq 15455 (c 1000000)],leq 25813 (c 1000000)),
([eql 25814 15489,leq (c 0) 15489],leq (c 0) 25814),
([eql 25814 15489,leq 15489 (c 1000000)],leq 25814 (c 1000000)),
([eql 25815 15490,leq (c 0) 15490],leq (c 0) 25815),
([eql 25815 15490,leq 15490 (c 1000000)],leq 25815 (c 1000000)),
([eql 25817 15491,leq (c 0) 15491],leq (c 0) 25817),
([eql 25817 15491,leq 15491 (c 1000000)],leq 25817 (c 1000000)),
([eql 25822 15492,leq (c 0) 15492],leq (c 0) 25822),
([eql 25822 15492,leq 15492 (c 1000000)],leq 25822 (c 1000000)),
([eql 25816 15518,leq (c 0) 15518],leq (c 0) 25816),
([eql 25816 15518,leq 15518 (c 1)],leq 25816 (c 1)),
([eql 25792 15593,leq (c 0) 15593],leq (c 0) 25792),
([eql 25792 15593,leq 15593 (c 2)],leq 25792 (c 2)),
([eql 25790 (wx (.add 15436 (c 1))),leq (c 0) 15436,leq 15436 (.nat 21),leq 21 (c 4611686018427387904)],leq (c 0) 25790),
([eql 25790 (wx (.add 15436 (c 1))),leq (c 0) 15436,lss 15436 (.nat 21)],leq 25790 (.nat 21))]:=dS
theorem arr:ab [([eql 407 (c 0)],rx 41 [407] [407])]:=by
 repeat' (first|exact .nil|refine au ?_ ?_)
 all_goals(
  intro ρ h;simp only[vS,IE.den,BE.den,LE.den]at h⊢
  have h0:=h
  try simp only[IntKind.wrap_i64]at*
  refine⟨fun a ha=>?_,fun a b ha hb=>?_⟩
  ·try simp only[aC,fR,xh,XE,ae]at⊢
   grind
  ·try simp only[aC,fR,xh,XE,ae]at⊢
   grind)
theorem ars:ab [([],rx 41 [(c 0)] [1])]:=by
 repeat' (first|exact .nil|refine au ?_ ?_)
 all_goals(
  intro ρ h;simp only[vS,IE.den,BE.den,LE.den]at h⊢
  try simp only[IntKind.wrap_i64]at*
  refine⟨fun a ha=>?_,fun a b ha hb=>?_⟩
  ·try simp only[aC,fR,xh,XE,ae]at⊢
   grind
  ·try simp only[aC,fR,xh,XE,ae]at⊢
   grind)
theorem art:ab [([eql 407 (c 0)],rx 42 [407] [407,1])]:=by
 repeat' (first|exact .nil|refine au ?_ ?_)
 all_goals(
  intro ρ h;simp only[vS,IE.den,BE.den,LE.den]at h⊢
  have h0:=h
  try simp only[IntKind.wrap_i64]at*
  intro a ha
  try simp only[aC,fR,xh,XE,ae]at⊢
  grind)
theorem aru:ab [([rx 0 [] [15437,15427],rx 0 [] [15475,308],rx 46 [314] [15427,308]],rx 46 [314] [15437,15475]),
([rx 0 [] [25791,15749],rx 0 [] [25829,15480],rx 46 [314] [15749,15480]],rx 46 [314] [25791,25829]),
([eql 25809 15487,rx 0 [] [25809,15487],rx 7 [15487,314] [15487]],rx 7 [25809,314] [25809])]:=by
  repeat' (first|exact .nil|refine au ?_ ?_)
  all_goals(
   intro ρ h;simp only[vS,IE.den,BE.den,LE.den]at h⊢
   obtain⟨h0,h1,h2⟩:=h
   simp only[h0,h1];exact h2)
theorem arv:ab [([eql 15438 (c 1),eql 15469 (c 0),rx 0 [] [15475,308],rx 12 [314,246,249,250,257,313,247,(c 0),(c 1)] [308]],rx 12 [314,246,249,250,257,313,247,15469,15438] [15475]),
([eql 25792 15593,eql 25823 15525,rx 0 [] [25829,15480],rx 12 [314,246,249,250,257,313,247,15525,15593] [15480]],rx 12 [314,246,249,250,257,313,247,25823,25792] [25829])]:=by
  repeat' (first|exact .nil|refine au ?_ ?_)
  all_goals(
   intro ρ h;simp only[vS,IE.den,BE.den,LE.den]at h⊢
   obtain⟨h0,h1,h2,h3⟩:=h
   simp only[h0,h1,h2];exact h3)
theorem arw:ab [([rx 0 [] [15476,309],rx 18 [313] [309]],rx 18 [313] [15476]),
([rx 0 [] [25830,15481],rx 18 [313] [15481]],rx 18 [313] [25830])]:=by
  repeat' (first|exact .nil|refine au ?_ ?_)
  all_goals(
   intro ρ h;simp only[vS,IE.den,BE.den,LE.den]at h⊢
   obtain⟨h0,h1⟩:=h
   simp only[h0];exact h1)
theorem arx:ab [([eql 15437 15427,rx 0 [] [15437,15427],eql 15455 315,rx 0 [] [15455,315],rx 0 [] [15475,308],rx 0 [] [15476,309],rx 46 [314] [15427,308],eql 15427 314,leq (c 0) 314,leq 314 (c 64),rx 16 [246,247,249,250,251,252,253,254,255,256,257,314,313,311,312] [],rx 12 [314,246,249,250,257,313,247,(c 0),(c 1)] [308],rx 18 [313] [309],eql 315 (c 0),rx 48 [210] [210],leq (c 0) 210,leq 210 (c 8),leq (c 0) 211,leq 211 (c 64),rx 16 [246,247,249,250,251,252,253,254,255,256,257,(c 0),210,210,211] []],rx 7 [15455,314] [15455])]:=by
 repeat' (first|exact .nil|refine au ?_ ?_)
 all_goals(
  intro ρ h;simp only[vS,IE.den,BE.den,LE.den]at h⊢
  obtain⟨h0,h1,h2,h3,h4,h5,h6,h7,h8,h9,h10,h11,h12,h13,h14⟩:=h
  rw[h2,h13];exact⟨by omega,by omega,fun a ha=>absurd ha (by omega),fun a b ha=>absurd ha (by omega)⟩)
theorem ary:ab [([leq (c 0) 15436,.imp 204 (rx 52 [21] [22]),lss 15436 (.nat 21),fb 204],leq (gx 22 15436 0) (c 1000000)),
([eql 25809 15487,eql 25823 15525,.imp (ex 15525 (c 0)) (eql 15487 (c 0))],fb (ix (ex 25823 (c 0)) (ex 25809 (c 0)) (.lit true)))]:=kj
theorem arz:ab [([rx 39 [314] [15778,15480],eql 15778 314,rx 46 [314] [15749,15480],eql 15749 314,rx 12 [314,246,249,250,257,313,247,15525,15593] [15480],rx 18 [313] [15481],rx 7 [15487,314] [15487],leq (c 0) 15487,leq 15487 (c 1000000),.imp (ex 15525 (c 0)) (eql 15487 (c 0)),leq (c 0) 15455,leq 15455 (c 1000000),leq (c 0) 15593,leq 15593 (c 2),rx 36 [314,249,256,15526] [15480,15475],rx 35 [314,247,250] [15480],leq (c 0) (gx 22 15436 0),leq (gx 22 15436 0) (c 4611686018427387904),rx 46 [314] [15437,15475],eql 15437 314,rx 12 [314,246,249,250,257,313,247,15469,15438] [15475],rx 18 [313] [15476],rx 7 [15455,314] [15455],fb (ix (ex 15469 (c 0)) (ex 15455 (c 0)) (.lit true)),leq (c 0) 15455,leq 15455 (c 1000000),leq (c 0) 15438,leq 15438 (c 2),leq (c 0) 15436,leq 15436 (.nat 21),rx 46 [314] [15427,308],eql 15427 314,leq (c 0) 314,leq 314 (c 64),rx 16 [246,247,249,250,251,252,253,254,255,256,257,314,313,311,312] [],rx 12 [314,246,249,250,257,313,247,(c 0),(c 1)] [308],rx 18 [313] [309],rx 48 [210] [210],leq (c 0) 210,leq 210 (c 8),leq (c 0) 211,leq 211 (c 64),rx 16 [246,247,249,250,251,252,253,254,255,256,257,(c 0),210,210,211] [],.imp 204 (leq 21 (c 250)),.imp 204 (rx 52 [21] [22]),lss 15436 (.nat 21),fb 204,leq (c 0) 21,leq 21 (c 4611686018427387904)],rx 41 [15437] [15437])]:=by
 repeat' (first|exact .nil|refine au ?_ ?_)
 all_goals(
  intro ρ h;simp only[vS,IE.den,BE.den,LE.den]at h⊢
  obtain⟨g0,g1,g2,g3,g4,g5,g6,g7,g8,g9,g10,g11,g12,g13,g14,g15,g16,g17,h0,h1,h2,hr⟩:=h
  rw[h1]
  refine⟨fun a ha=>?_,fun a b ha hb=>?_⟩
  ·have x:=h2.1 a ha;have y:=h0 a ha
   simp only[aC]at x;clear g0 g4 g5 g14 g15 h2;omega
  ·have x:=h2.1 a ha;have y:=h0 a ha;have x':=h2.1 b hb;have y':=h0 b hb;have z:=h2.2 a b ha hb
   simp only[aC]at x x';clear h0 h2 hr g0 g2 g4 g5 g6 g14 g15 g9;grind)
theorem vc:ab [([rx 39 [314] [15778,15480],eql 15778 314,rx 46 [314] [15749,15480],eql 15749 314,rx 12 [314,246,249,250,257,313,247,15525,15593] [15480],rx 18 [313] [15481],rx 7 [15487,314] [15487],leq (c 0) 15487,leq 15487 (c 1000000),.imp (ex 15525 (c 0)) (eql 15487 (c 0)),leq (c 0) 15455,leq 15455 (c 1000000),leq (c 0) 15593,leq 15593 (c 2),rx 36 [314,249,256,15526] [15480,15475],rx 35 [314,247,250] [15480],leq (c 0) (gx 22 15436 0),leq (gx 22 15436 0) (c 4611686018427387904),rx 46 [314] [15437,15475],eql 15437 314,rx 12 [314,246,249,250,257,313,247,15469,15438] [15475],rx 18 [313] [15476],rx 7 [15455,314] [15455],fb (ix (ex 15469 (c 0)) (ex 15455 (c 0)) (.lit true)),leq (c 0) 15455,leq 15455 (c 1000000),leq (c 0) 15438,leq 15438 (c 2),leq (c 0) 15436,leq 15436 (.nat 21),rx 46 [314] [15427,308],eql 15427 314,leq (c 0) 314,leq 314 (c 64),rx 16 [246,247,249,250,251,252,253,254,255,256,257,314,313,311,312] [],rx 12 [314,246,249,250,257,313,247,(c 0),(c 1)] [308],rx 18 [313] [309],rx 48 [210] [210],leq (c 0) 210,leq 210 (c 8),leq (c 0) 211,leq 211 (c 64),rx 16 [246,247,249,250,251,252,253,254,255,256,257,(c 0),210,210,211] [],.imp 204 (leq 21 (c 250)),.imp 204 (rx 52 [21] [22]),lss 15436 (.nat 21),fb 204,leq (c 0) 21,leq 21 (c 4611686018427387904)],rx 41 [15749] [15749])]:=by
 repeat' (first|exact .nil|refine au ?_ ?_)
 all_goals(
  intro ρ h;simp only[vS,IE.den,BE.den,LE.den]at h⊢
  obtain⟨g0,g1,h0,h1,h2,hr⟩:=h
  rw[h1]
  refine⟨fun a ha=>?_,fun a b ha hb=>?_⟩
  ·have x:=h2.1 a ha;have y:=h0 a ha
   simp only[aC]at x;clear g0 h2 hr;omega
  ·have x:=h2.1 a ha;have y:=h0 a ha;have x':=h2.1 b hb;have y':=h0 b hb;have z:=h2.2 a b ha hb
   simp only[aC]at x x';clear h0 h2 hr g0;grind)
theorem ari:ab [([eql 15778 314,rx 46 [314] [15749,15480],eql 15749 314,leq (c 0) 15487,leq 15487 (c 1000000),leq (c 0) 15455,leq 15455 (c 1000000),leq (c 0) 15593,leq 15593 (c 2),rx 36 [314,249,256,15526] [15480,15475],rx 35 [314,247,250] [15480],leq (c 0) (gx 22 15436 0),leq (gx 22 15436 0) (c 4611686018427387904),rx 46 [314] [15437,15475],eql 15437 314,fb (ix (ex 15469 (c 0)) (ex 15455 (c 0)) (.lit true)),leq (c 0) 15455,leq 15455 (c 1000000),leq (c 0) 15438,leq 15438 (c 2),leq (c 0) 15436,leq 15436 (.nat 21),rx 46 [314] [15427,308],eql 15427 314,leq (c 0) 314,leq 314 (c 64),leq (c 0) 210,leq 210 (c 8),leq (c 0) 211,leq 211 (c 64),lss 15436 (.nat 21),fb 204,leq (c 0) 21,leq 21 (c 4611686018427387904)],rx 42 [15437] [15437,15749])]:=by
 repeat' (first|exact .nil|refine au ?_ ?_)
 all_goals(
  intro ρ;(intro h;simp only[vS,IE.den,BE.den,LE.den]at h⊢;revert h;(try simp only[and_imp]);intros)
  have t:=(by assumption:ac 33 [ρ.i 314,ρ.i 249,ρ.i 256,ρ.i 15526] [ρ.l 15480,ρ.l 15475])
  have f0:=(by assumption:ac 43 [ρ.i 314] [ρ.l 15437,ρ.l 15475])
  have f1:=(by assumption:ac 43 [ρ.i 314] [ρ.l 15749,ρ.l 15480])
  have w1:=(by assumption:ac 32 [ρ.i 314,ρ.i 247,ρ.i 250] [ρ.l 15480])
  have e:=(by assumption:ρ.i 15437=ρ.i 314)
  simp only[ac,tD,phL,XD,XF,XE]at t f0 f1 w1⊢
  intro a ha
  rw[e]at ha
  have t:=(t a ha).1
  have f0:=f0 a ha
  have f1:=f1 a ha
  have w1:=w1 a ha
  rw[f0,f1]
  omega)
theorem arj:ab [([lss 15790 (.nat 15778),fb (nx (ix (nx 15789) (.lit true) (.cmp .neq (.nat 15778) (.nat 15437))))],lss 15790 (.nat 15437)),
([leq (c 0) 15790,lss 15790 (.nat 15778),fb (nx (ix (nx 15789) (.lit true) (.cmp .neq (.nat 15778) (.nat 15437))))],lss (.nat 15790) (.nat 15437))]:=s8
theorem ark:ab [([eql 15791 (wx (.add 15790 (c 1))),leq (c 0) 15790,leq 15790 (.nat 15778),eql 15778 314,rx 16 [246,247,249,250,251,252,253,254,255,256,257,314,313,311,312] []],leq (c 0) 15791)]:=lm
theorem arl:ab [([fb 411,leq (gx 22 406 0) (c 4611686018427387904),eql 407 (c 0),.imp 204 (rx 52 [21] [22]),fb (ix (nx 411) (.lit true) (.cmp .neq (c 0) (.nat 407)))],fb (.lit false))]:=by
 repeat' (first|exact .nil|refine au ?_ ?_)
 all_goals(
  intro ρ h;simp only[vS,IE.den,BE.den,LE.den]at h⊢
  obtain⟨h0,h1,h2,h3,h4⟩:=h
  try simp only[IntKind.wrap_i64]at*
  first|have y03:=fun h1=>(h3 h1) (ρ.i 406).toNat (by omega)|have y03:=True.intro
  try simp only[aC,fR,xh,XE,ae]at y03⊢
  grind)
theorem arm:ab [([leq (c 0) 121,leq 121 (c 255),leq (c 0) 122,leq 122 (c 255),leq (c 0) 123,leq 123 (c 255),leq (c 0) 124,leq 124 (c 255),leq (c 0) 125,leq 125 (c 255),leq (c 0) 126,leq 126 (c 255),leq (c 0) 127,leq 127 (c 255),leq (c 0) 128,leq 128 (c 255),leq (c 0) 129,leq 129 (c 255),leq (c 0) 130,leq 130 (c 255),leq (c 0) 131,leq 131 (c 255),leq (c 0) 132,leq 132 (c 65535),leq (c 0) 20,leq 20 (c 4611686018427387904),leq (c 0) 21,leq 21 (c 4611686018427387904),fb 15789,rx 39 [314] [15778,15480],eql 15778 314,rx 46 [314] [15749,15480],eql 15749 314,leq (c 0) 15487,leq 15487 (c 1000000),leq (c 0) 15455,leq 15455 (c 1000000),leq (c 0) 15489,leq 15489 (c 1000000),leq (c 0) 15490,leq 15490 (c 1000000),leq (c 0) 15491,leq 15491 (c 1000000),leq (c 0) 15518,leq 15518 (c 1),leq (c 0) 15492,leq 15492 (c 1000000),leq (c 0) 15593,leq 15593 (c 2),leq (c 0) (gx 22 15436 0),leq (gx 22 15436 0) (c 4611686018427387904),rx 46 [314] [15437,15475],eql 15437 314,fb (ix (ex 15469 (c 0)) (ex 15455 (c 0)) (.lit true)),leq (c 0) 15455,leq 15455 (c 1000000),leq (c 0) 15459,leq 15459 (c 1000000),leq (c 0) 15460,leq 15460 (c 1000000),leq (c 0) 15461,leq 15461 (c 1000000),leq (c 0) 15463,leq 15463 (c 1000000),leq (c 0) 15468,leq 15468 (c 1000000),leq (c 0) 15462,leq 15462 (c 1),leq (c 0) 15438,leq 15438 (c 2),leq (c 0) 15436,leq 15436 (.nat 21),rx 46 [314] [15427,308],eql 15427 314,leq (c 0) 314,leq 314 (c 64),leq (c 0) 324,leq 324 (c 8),eql 315 (c 0),eql 316 (c 0),eql 317 (c 0),eql 318 (c 0),eql 319 (c 0),eql 321 (c 0),leq (c 0) 320,leq 320 (c 64),leq (c 0) 210,leq 210 (c 8),leq (c 0) 211,leq 211 (c 64),fb 202,fb (ix (nx 15789) (.lit true) (.cmp .neq (.nat 15778) (.nat 15437))),lss 15436 (.nat 21),fb 204,fb 202],fb (.lit false))]:=by
 repeat' (first|exact .nil|refine au ?_ ?_)
 all_goals(
  intro ρ;(intro h;simp only[vS,IE.den,BE.den,LE.den]at h⊢;revert h;(try simp only[and_imp]);intros);grind)
theorem arn:ab [([leq (c 0) 121,leq 121 (c 255),leq (c 0) 122,leq 122 (c 255),leq (c 0) 123,leq 123 (c 255),leq (c 0) 124,leq 124 (c 255),leq (c 0) 125,leq 125 (c 255),leq (c 0) 126,leq 126 (c 255),leq (c 0) 127,leq 127 (c 255),leq (c 0) 128,leq 128 (c 255),leq (c 0) 129,leq 129 (c 255),leq (c 0) 130,leq 130 (c 255),leq (c 0) 131,leq 131 (c 255),leq (c 0) 132,leq 132 (c 65535),leq (c 0) 20,leq 20 (c 4611686018427387904),leq (c 0) 21,leq 21 (c 4611686018427387904),leq (c 0) 15790,leq 15790 (.nat 15778),fb 15789,rx 39 [314] [15778,15480],eql 15778 314,rx 46 [314] [15749,15480],eql 15749 314,rx 12 [314,246,249,250,257,313,247,15525,15593] [15480],leq (c 0) 15487,leq 15487 (c 1000000),leq (c 0) 15455,leq 15455 (c 1000000),leq (c 0) 15489,leq 15489 (c 1000000),leq (c 0) 15490,leq 15490 (c 1000000),leq (c 0) 15491,leq 15491 (c 1000000),leq (c 0) 15518,leq 15518 (c 1),leq (c 0) 15492,leq 15492 (c 1000000),leq (c 0) 15593,leq 15593 (c 2),rx 36 [314,249,256,15526] [15480,15475],rx 35 [314,247,250] [15480],leq (c 0) (gx 22 15436 0),leq (gx 22 15436 0) (c 4611686018427387904),rx 46 [314] [15437,15475],eql 15437 314,rx 12 [314,246,249,250,257,313,247,15469,15438] [15475],fb (ix (ex 15469 (c 0)) (ex 15455 (c 0)) (.lit true)),leq (c 0) 15455,leq 15455 (c 1000000),leq (c 0) 15459,leq 15459 (c 1000000),leq (c 0) 15460,leq 15460 (c 1000000),leq (c 0) 15461,leq 15461 (c 1000000),leq (c 0) 15463,leq 15463 (c 1000000),leq (c 0) 15468,leq 15468 (c 1000000),leq (c 0) 15462,leq 15462 (c 1),leq (c 0) 15438,leq 15438 (c 2),leq (c 0) 15436,leq 15436 (.nat 21),rx 46 [314] [15427,308],eql 15427 314,leq (c 0) 314,leq 314 (c 64),rx 16 [246,247,249,250,251,252,253,254,255,256,257,314,313,311,312] [],rx 12 [314,246,249,250,257,313,247,(c 0),(c 1)] [308],leq (c 0) 324,leq 324 (c 8),eql 315 (c 0),eql 316 (c 0),eql 317 (c 0),eql 318 (c 0),eql 319 (c 0),eql 321 (c 0),leq (c 0) 320,leq 320 (c 64),leq (c 0) 210,leq 210 (c 8),leq (c 0) 211,leq 211 (c 64),rx 16 [246,247,249,250,251,252,253,254,255,256,257,(c 0),210,210,211] [],fb 202,fb (ix (ix (ex (gx 15437 15790 0) (c 2)) (ex (gx 15749 15790 0) (c 3)) (.lit false)) (ix (ix (ix (.cmp .neq (gx 15778 15790 1) (wx (.mul (c 8) 247))) (.lit true) (.cmp .neq (gx 15778 15790 3) 250)) (.lit true) (.cmp .neq (gx 15778 15790 2) (c 0))) (.lit true) (.cmp .neq (gx 15778 15790 6) (c (-1)))) (.lit false)),lss 15790 (.nat 15778),fb (nx (ix (nx 15789) (.lit true) (.cmp .neq (.nat 15778) (.nat 15437)))),lss 15436 (.nat 21),fb 204,fb 202],fb (.lit false))]:=by
 repeat' (first|exact .nil|refine au ?_ ?_)
 all_goals(
  intro ρ;(intro h;simp only[vS,IE.den,BE.den,LE.den]at h⊢;revert h;(try simp only[and_imp]);intros)
  have t:=(by assumption:ac 33 [ρ.i 314,ρ.i 249,ρ.i 256,ρ.i 15526] [ρ.l 15480,ρ.l 15475])
  have s1:=(by assumption:ac 36 [ρ.i 314] [ρ.l 15778,ρ.l 15480])
  have iv:=(by assumption:ac 9 [ρ.i 314,ρ.i 246,ρ.i 249,ρ.i 250,ρ.i 257,ρ.i 313,ρ.i 247,ρ.i 15525,ρ.i 15593] [ρ.l 15480])
  have cf:=(by assumption:ac 13 [ρ.i 246,ρ.i 247,ρ.i 249,ρ.i 250,ρ.i 251,ρ.i 252,ρ.i 253,ρ.i 254,ρ.i 255,ρ.i 256,ρ.i 257,ρ.i 314,ρ.i 313,ρ.i 311,ρ.i 312] [])
  simp only[ac,aV]at cf
  have hk:((ρ.i 15790).toNat:Int)<ρ.i 314:=by((try simp only[IntKind.wrap_i64,Int.ofNat_toNat]at*);omega)
  simp only[ac,tD,xi,inv]at t s1 iv
  have t:=t _ hk
  obtain⟨q0,q1,q2,q3,q4,q5,q6⟩:=s1 _ hk
  have iv:=iv.1 _ hk
  simp only[aC]at iv
  obtain⟨i0,i1,i3,i4,i5,i6,i9,i11,i14,i15,i16,i17,i18⟩:=iv
  simp only[xh]at t
  obtain⟨t10,t1,t2,t3,t4⟩:=t
  have f0:=(by assumption:ac 43 [ρ.i 314] [ρ.l 15437,ρ.l 15475])
  have f1:=(by assumption:ac 43 [ρ.i 314] [ρ.l 15749,ρ.l 15480])
  have w1:=(by assumption:ac 32 [ρ.i 314,ρ.i 247,ρ.i 250] [ρ.l 15480])
  simp only[ac,phL,XD]at f0 f1 w1
  have f0:=f0 _ hk
  have f1:=f1 _ hk
  have w1:=w1 _ hk
  simp only[f0,f1,q0,q1,q2,q3,q5,q6]at*
  (try simp(disch:=omega) only[cq]at*)
  simp only[ab2,xN]at*
  omega)
theorem aro:ab [([leq (c 0) 121,leq 121 (c 255),leq (c 0) 122,leq 122 (c 255),leq (c 0) 123,leq 123 (c 255),leq (c 0) 124,leq 124 (c 255),leq (c 0) 125,leq 125 (c 255),leq (c 0) 126,leq 126 (c 255),leq (c 0) 127,leq 127 (c 255),leq (c 0) 128,leq 128 (c 255),leq (c 0) 129,leq 129 (c 255),leq (c 0) 130,leq 130 (c 255),leq (c 0) 131,leq 131 (c 255),leq (c 0) 132,leq 132 (c 65535),leq (c 0) 20,leq 20 (c 4611686018427387904),leq (c 0) 21,leq 21 (c 4611686018427387904),leq (c 0) 15790,leq 15790 (.nat 15778),fb 15789,rx 39 [314] [15778,15480],eql 15778 314,rx 46 [314] [15749,15480],eql 15749 314,rx 12 [314,246,249,250,257,313,247,15525,15593] [15480],leq (c 0) 15487,leq 15487 (c 1000000),leq (c 0) 15455,leq 15455 (c 1000000),leq (c 0) 15489,leq 15489 (c 1000000),leq (c 0) 15490,leq 15490 (c 1000000),leq (c 0) 15491,leq 15491 (c 1000000),leq (c 0) 15518,leq 15518 (c 1),leq (c 0) 15492,leq 15492 (c 1000000),leq (c 0) 15593,leq 15593 (c 2),rx 36 [314,249,256,15526] [15480,15475],rx 35 [314,247,250] [15480],leq (c 0) (gx 22 15436 0),leq (gx 22 15436 0) (c 4611686018427387904),rx 46 [314] [15437,15475],eql 15437 314,rx 12 [314,246,249,250,257,313,247,15469,15438] [15475],fb (ix (ex 15469 (c 0)) (ex 15455 (c 0)) (.lit true)),leq (c 0) 15455,leq 15455 (c 1000000),leq (c 0) 15459,leq 15459 (c 1000000),leq (c 0) 15460,leq 15460 (c 1000000),leq (c 0) 15461,leq 15461 (c 1000000),leq (c 0) 15463,leq 15463 (c 1000000),leq (c 0) 15468,leq 15468 (c 1000000),leq (c 0) 15462,leq 15462 (c 1),leq (c 0) 15438,leq 15438 (c 2),leq (c 0) 15436,leq 15436 (.nat 21),rx 46 [314] [15427,308],eql 15427 314,leq (c 0) 314,leq 314 (c 64),rx 16 [246,247,249,250,251,252,253,254,255,256,257,314,313,311,312] [],rx 12 [314,246,249,250,257,313,247,(c 0),(c 1)] [308],leq (c 0) 324,leq 324 (c 8),eql 315 (c 0),eql 316 (c 0),eql 317 (c 0),eql 318 (c 0),eql 319 (c 0),eql 321 (c 0),leq (c 0) 320,leq 320 (c 64),leq (c 0) 210,leq 210 (c 8),leq (c 0) 211,leq 211 (c 64),rx 16 [246,247,249,250,251,252,253,254,255,256,257,(c 0),210,210,211] [],fb 202,fb (ix (ix (ix (ix (ex (gx 15749 15790 0) (c 2)) (.cmp .neq (gx 15778 15790 6) 247) (.lit false)) (.lit true) (ix (ex (gx 15749 15790 0) (c 5)) (.cmp .neq (gx 15778 15790 6) (c (-1))) (.lit false))) (.lit true) (ix (ex (gx 15749 15790 0) (c 1)) (.cmp .neq (gx 15778 15790 6) (c (-1))) (.lit false))) (.lit true) (ix (ex (gx 15749 15790 0) (c 3)) (.cmp .neq (gx 15778 15790 6) (c (-1))) (.lit false))),fb (nx (ix (ix (ex (gx 15437 15790 0) (c 2)) (ex (gx 15749 15790 0) (c 3)) (.lit false)) (ix (ix (ix (.cmp .neq (gx 15778 15790 1) (wx (.mul (c 8) 247))) (.lit true) (.cmp .neq (gx 15778 15790 3) 250)) (.lit true) (.cmp .neq (gx 15778 15790 2) (c 0))) (.lit true) (.cmp .neq (gx 15778 15790 6) (c (-1)))) (.lit false))),lss 15790 (.nat 15778),fb (nx (ix (nx 15789) (.lit true) (.cmp .neq (.nat 15778) (.nat 15437)))),lss 15436 (.nat 21),fb 204,fb 202],fb (.lit false))]:=by
 repeat' (first|exact .nil|refine au ?_ ?_)
 all_goals(
  intro ρ;(intro h;simp only[vS,IE.den,BE.den,LE.den]at h⊢;revert h;(try simp only[and_imp]);intros)
  have t:=(by assumption:ac 33 [ρ.i 314,ρ.i 249,ρ.i 256,ρ.i 15526] [ρ.l 15480,ρ.l 15475])
  have s1:=(by assumption:ac 36 [ρ.i 314] [ρ.l 15778,ρ.l 15480])
  have iv:=(by assumption:ac 9 [ρ.i 314,ρ.i 246,ρ.i 249,ρ.i 250,ρ.i 257,ρ.i 313,ρ.i 247,ρ.i 15525,ρ.i 15593] [ρ.l 15480])
  have cf:=(by assumption:ac 13 [ρ.i 246,ρ.i 247,ρ.i 249,ρ.i 250,ρ.i 251,ρ.i 252,ρ.i 253,ρ.i 254,ρ.i 255,ρ.i 256,ρ.i 257,ρ.i 314,ρ.i 313,ρ.i 311,ρ.i 312] [])
  simp only[ac,aV]at cf
  have hk:((ρ.i 15790).toNat:Int)<ρ.i 314:=by((try simp only[IntKind.wrap_i64,Int.ofNat_toNat]at*);omega)
  simp only[ac,tD,xi,inv]at t s1 iv
  have t:=t _ hk
  obtain⟨q0,q1,q2,q3,q4,q5,q6⟩:=s1 _ hk
  have iv:=iv.1 _ hk
  simp only[aC]at iv
  obtain⟨i0,i1,i3,i4,i5,i6,i9,i11,i14,i15,i16,i17,i18⟩:=iv
  simp only[xh]at t
  obtain⟨t10,t1,t2,t3,t4⟩:=t
  have f0:=(by assumption:ac 43 [ρ.i 314] [ρ.l 15437,ρ.l 15475])
  have f1:=(by assumption:ac 43 [ρ.i 314] [ρ.l 15749,ρ.l 15480])
  have w1:=(by assumption:ac 32 [ρ.i 314,ρ.i 247,ρ.i 250] [ρ.l 15480])
  simp only[ac,phL,XD]at f0 f1 w1
  have f0:=f0 _ hk
  have f1:=f1 _ hk
  have w1:=w1 _ hk
  simp only[q0,q1,q2,q3,q5,q6,f1]at*
  clear w1 t10 t1 t2 t3 t4 i14 i17 i18 i0 i1 i3 i4 i5 i6 f0
  simp only[ab2,xN]at*
  omega)
theorem arp:ab [([leq (c 0) 121,leq 121 (c 255),leq (c 0) 122,leq 122 (c 255),leq (c 0) 123,leq 123 (c 255),leq (c 0) 124,leq 124 (c 255),leq (c 0) 125,leq 125 (c 255),leq (c 0) 126,leq 126 (c 255),leq (c 0) 127,leq 127 (c 255),leq (c 0) 128,leq 128 (c 255),leq (c 0) 129,leq 129 (c 255),leq (c 0) 130,leq 130 (c 255),leq (c 0) 131,leq 131 (c 255),leq (c 0) 132,leq 132 (c 65535),leq (c 0) 20,leq 20 (c 4611686018427387904),leq (c 0) 21,leq 21 (c 4611686018427387904),leq (c 0) 20790,leq 20790 (.nat 15749),leq (c 0) 15790,leq 15790 (.nat 15778),fb 15789,rx 39 [314] [15778,15480],eql 15778 314,rx 46 [314] [15749,15480],eql 15749 314,rx 12 [314,246,249,250,257,313,247,15525,15593] [15480],leq (c 0) 15487,leq 15487 (c 1000000),leq (c 0) 15455,leq 15455 (c 1000000),leq (c 0) 15489,leq 15489 (c 1000000),leq (c 0) 15490,leq 15490 (c 1000000),leq (c 0) 15491,leq 15491 (c 1000000),leq (c 0) 15518,leq 15518 (c 1),leq (c 0) 15492,leq 15492 (c 1000000),leq (c 0) 15593,leq 15593 (c 2),rx 36 [314,249,256,15526] [15480,15475],rx 35 [314,247,250] [15480],leq (c 0) (gx 22 15436 0),leq (gx 22 15436 0) (c 4611686018427387904),rx 46 [314] [15437,15475],eql 15437 314,rx 12 [314,246,249,250,257,313,247,15469,15438] [15475],fb (ix (ex 15469 (c 0)) (ex 15455 (c 0)) (.lit true)),leq (c 0) 15455,leq 15455 (c 1000000),leq (c 0) 15459,leq 15459 (c 1000000),leq (c 0) 15460,leq 15460 (c 1000000),leq (c 0) 15461,leq 15461 (c 1000000),leq (c 0) 15463,leq 15463 (c 1000000),leq (c 0) 15468,leq 15468 (c 1000000),leq (c 0) 15462,leq 15462 (c 1),leq (c 0) 15438,leq 15438 (c 2),leq (c 0) 15436,leq 15436 (.nat 21),rx 46 [314] [15427,308],eql 15427 314,leq (c 0) 314,leq 314 (c 64),rx 16 [246,247,249,250,251,252,253,254,255,256,257,314,313,311,312] [],rx 12 [314,246,249,250,257,313,247,(c 0),(c 1)] [308],leq (c 0) 324,leq 324 (c 8),eql 315 (c 0),eql 316 (c 0),eql 317 (c 0),eql 318 (c 0),eql 319 (c 0),eql 321 (c 0),leq (c 0) 320,leq 320 (c 64),leq (c 0) 210,leq 210 (c 8),leq (c 0) 211,leq 211 (c 64),rx 16 [246,247,249,250,251,252,253,254,255,256,257,(c 0),210,210,211] [],fb 202,fb (ix (.cmp .neq (gx 15749 20790 0) (c 5)) (nx (.eqb (ex 15525 (c 0)) (ex (gx 15749 20790 0) (c 0)))) (.lit false)),lss 20790 (.nat 15749),fb (nx (lx 15790 (.nat 15778))),fb (nx (ix (nx 15789) (.lit true) (.cmp .neq (.nat 15778) (.nat 15437)))),lss 15436 (.nat 21),fb 204,fb 202],fb (.lit false))]:=by
 repeat' (first|exact .nil|refine au ?_ ?_)
 all_goals(
  intro ρ;(intro h;simp only[vS,IE.den,BE.den,LE.den]at h⊢;revert h;(try simp only[and_imp]);intros)
  have t:=(by assumption:ac 33 [ρ.i 314,ρ.i 249,ρ.i 256,ρ.i 15526] [ρ.l 15480,ρ.l 15475])
  have s1:=(by assumption:ac 36 [ρ.i 314] [ρ.l 15778,ρ.l 15480])
  have iv:=(by assumption:ac 9 [ρ.i 314,ρ.i 246,ρ.i 249,ρ.i 250,ρ.i 257,ρ.i 313,ρ.i 247,ρ.i 15525,ρ.i 15593] [ρ.l 15480])
  have cf:=(by assumption:ac 13 [ρ.i 246,ρ.i 247,ρ.i 249,ρ.i 250,ρ.i 251,ρ.i 252,ρ.i 253,ρ.i 254,ρ.i 255,ρ.i 256,ρ.i 257,ρ.i 314,ρ.i 313,ρ.i 311,ρ.i 312] [])
  simp only[ac,aV]at cf
  have hk:((ρ.i 20790).toNat:Int)<ρ.i 314:=by((try simp only[IntKind.wrap_i64,Int.ofNat_toNat]at*);omega)
  simp only[ac,tD,xi,inv]at t s1 iv
  have t:=t _ hk
  obtain⟨q0,q1,q2,q3,q4,q5,q6⟩:=s1 _ hk
  have iv:=iv.1 _ hk
  simp only[aC]at iv
  obtain⟨i0,i1,i3,i4,i5,i6,i9,i11,i14,i15,i16,i17,i18⟩:=iv
  simp only[xh]at t
  obtain⟨t10,t1,t2,t3,t4⟩:=t
  have f0:=(by assumption:ac 43 [ρ.i 314] [ρ.l 15437,ρ.l 15475])
  have f1:=(by assumption:ac 43 [ρ.i 314] [ρ.l 15749,ρ.l 15480])
  have w1:=(by assumption:ac 32 [ρ.i 314,ρ.i 247,ρ.i 250] [ρ.l 15480])
  simp only[ac,phL,XD]at f0 f1 w1
  have f0:=f0 _ hk
  have f1:=f1 _ hk
  have w1:=w1 _ hk
  simp only[q0,q1,q2,q3,q5,q6,f1]at*
  clear w1 t10 t1 t2 t3 t4 i14 i15 i16 i18 i0 i1 i3 i4 i5 i6 f0
  simp only[ab2,xN]at*
  omega)
theorem ar6:asb.ok Tryz.prog:=ao (.cons Vl (.cons a9z (.cons UZ (.cons a9u (.cons uf (.cons GF (.cons Lu (.cons GI .nil)))))))) HL (a5t arq (a5t arr (a5t ars (a5t art (a5t aru (a5t arv (a5t arw (a5t arx (a5t ary (a5t arz (a5t vc (a5t ari (a5t arj (a5t ark (a5t arl (a5t arm (a5t arn (a5t aro arp)))))))))))))))))) [3,2,4,5,2,2,0,2,6,71,72,73,7,8,9,10,2,11,12,74,13,77,79,81,14,15,16,17,18,19,20,21,22,23,24,25,26,27,28,29,30,31,32,2,2,0,2,33,34,82,84,85,86,35,36,37,38,39,2,87,88,2,40,41,2,2,0,2,2,0,2,2,0,2,2,0,2,40,41,2,2,0,2,40,41,2,2,0,2,40,41,2,2,0,2,40,41,2,2,0,44,89,45,46,47,2,2,0,2,2,0,48,49,50,51,75,52,78,80,76,83,53,54,55,56,57,58,59,60,61,62,63,64,65,66,67,68,69,70,1,0,90,0,91,92,93,94,0] (by kernel_rfl)
end Go.Proofs.YteelgjcnkhmigaaGreatDoor.K
