/- For every input TopCutOff returns true, and each argument reads behind the call as it read before: part 6 of the proof. -/
import Derived.Test.YteelgjcnkhmigaaGreatDoorA5
set_option linter.unusedVariables false
set_option linter.unusedSimpArgs false
set_option linter.unusedSectionVars false
set_option maxHeartbeats 0
set_option maxRecDepth 100000
namespace Go.Proofs.YteelgjcnkhmigaaGreatDoor.K
open Go.RowKit Go.Proofs.YteelgjcnkhmigaaGreatDoor.E
theorem as0:ab [([leq 211 (c 64)],leq 211 (c 1000000)),
([eql 406 (c 0)],leq (c 0) 406),
([eql 406 (c 0)],leq 406 (.nat 21)),
([leq (c 0) 406,lss 406 (.nat 21)],lss 406 21),
([eql 409 (wx (.add 406 (c 1))),lss 406 (.nat 21),leq 21 (c 4611686018427387904)],lss (.nat (.sub (.nat 21) 409)) (.nat (.sub (.nat 21) 406))),
([eql 409 (wx (.add 406 (c 1))),leq (c 0) 406,leq 406 (.nat 21),leq 21 (c 4611686018427387904)],leq (c 0) 409),
([eql 409 (wx (.add 406 (c 1))),leq (c 0) 406,lss 406 (.nat 21)],leq 409 (.nat 21)),
([eql 10424 315,eql 315 (c 0)],fb (ix (ex 10438 (c 0)) (ex 10424 (c 0)) (.lit true))),
([eql 10424 315,eql 315 (c 0)],leq (c 0) 10424),
([eql 10424 315,eql 315 (c 0)],leq 10424 (c 1000000)),
([eql 10428 316,eql 316 (c 0)],leq (c 0) 10428),
([eql 10428 316,eql 316 (c 0)],leq 10428 (c 1000000)),
([eql 10429 317,eql 317 (c 0)],leq (c 0) 10429),
([eql 10429 317,eql 317 (c 0)],leq 10429 (c 1000000)),
([eql 10430 318,eql 318 (c 0)],leq (c 0) 10430),
([eql 10430 318,eql 318 (c 0)],leq 10430 (c 1000000)),
([eql 10432 319,eql 319 (c 0)],leq (c 0) 10432),
([eql 10432 319,eql 319 (c 0)],leq 10432 (c 1000000)),
([eql 10437 320,leq (c 0) 320],leq (c 0) 10437),
([eql 10437 320,leq 320 (c 64)],leq 10437 (c 1000000)),
([eql 10431 (c 0)],leq (c 0) 10431),
([eql 10431 (c 0)],leq 10431 (c 1)),
([eql 10407 (c 1)],leq (c 0) 10407),
([eql 10407 (c 1)],leq 10407 (c 2)),
([eql 10406 (c 0)],leq (c 0) 10406),
([eql 10406 (c 0)],leq 10406 (.nat 21)),
([leq (c 0) 10406,lss 10406 (.nat 21)],lss 10406 21),
([fb (ix (ex 10438 (c 0)) (ex 10424 (c 0)) (.lit true))],.imp (ex 10438 (c 0)) (eql 10424 (c 0))),
([eql 10757 (c 0)],leq (c 0) 10757),
([eql 10757 (c 0)],leq 10757 (.nat 10747)),
([eql 10747 314,eql 10466 314,lss 10757 (.nat 10747)],lss 10757 (.nat 10466)),
([leq (c 0) 10757,eql 10747 314,eql 10466 314,lss 10757 (.nat 10747)],lss (.nat 10757) (.nat 10466)),
([eql 10758 (wx (.add 10757 (c 1))),eql 10747 314,leq 314 (c 64),lss 10757 (.nat 10747)],lss (.nat (.sub (.nat 10747) 10758)) (.nat (.sub (.nat 10747) 10757))),
([eql 10758 (wx (.add 10757 (c 1))),leq (c 0) 10757,lss 10757 (.nat 10747)],leq 10758 (.nat 10747)),
([eql 15757 (wx (.add 10406 (c 1))),lss 10406 (.nat 21),leq 21 (c 4611686018427387904)],lss (.nat (.sub (.nat 21) 15757)) (.nat (.sub (.nat 21) 10406))),
([eql 15775 10486,leq (c 0) 10486],leq (c 0) 15775),
([eql 15775 10486,leq 10486 (c 1000000)],leq 15775 (c 1000000)),
([eql 15779 10424,leq (c 0) 10424,leq (c 0) 10424],leq (c 0) 15779),
([eql 15779 10424,leq 10424 (c 1000000),leq 10424 (c 1000000)],leq 15779 (c 1000000)),
([eql 15780 10488,leq (c 0) 10488],leq (c 0) 15780),
([eql 15780 10488,leq 10488 (c 1000000)],leq 15780 (c 1000000)),
([eql 15781 10489,leq (c 0) 10489],leq (c 0) 15781),
([eql 15781 10489,leq 10489 (c 1000000)],leq 15781 (c 1000000)),
([eql 15783 10490,leq (c 0) 10490],leq (c 0) 15783),
([eql 15783 10490,leq 10490 (c 1000000)],leq 15783 (c 1000000)),
([eql 15788 10491,leq (c 0) 10491],leq (c 0) 15788),
([eql 15788 10491,leq 10491 (c 1000000)],leq 15788 (c 1000000)),
([eql 15782 10517,leq (c 0) 10517],leq (c 0) 15782),
([eql 15782 10517,leq 10517 (c 1)],leq 15782 (c 1)),
([eql 15758 10592,leq (c 0) 10592],leq (c 0) 15758),
([eql 15758 10592,leq 10592 (c 2)],leq 15758 (c 2)),
([eql 15757 (wx (.add 10406 (c 1))),leq (c 0) 10406,leq 10406 (.nat 21),leq 21 (c 4611686018427387904)],leq (c 0) 15757),
([eql 15757 (wx (.add 10406 (c 1))),leq (c 0) 10406,lss 10406 (.nat 21)],leq 15757 (.nat 21))]:=dS
theorem as1:ab [([eql 10407 (c 1),eql 10438 (c 0),rx 0 [] [10444,308],rx 12 [314,246,249,250,257,313,247,(c 0),(c 1)] [308]],rx 12 [314,246,249,250,257,313,247,10438,10407] [10444]),
([eql 15758 10592,eql 15789 10524,rx 0 [] [15795,10479],rx 12 [314,246,249,250,257,313,247,10524,10592] [10479]],rx 12 [314,246,249,250,257,313,247,15789,15758] [15795])]:=by
  repeat' (first|exact .nil|refine au ?_ ?_)
  all_goals(
   intro ρ h;simp only[vS,IE.den,BE.den,LE.den]at h⊢
   obtain⟨h0,h1,h2,h3⟩:=h
   simp only[h0,h1,h2];exact h3)
theorem as2:ab [([rx 0 [] [10445,309],rx 18 [313] [309]],rx 18 [313] [10445]),
([rx 0 [] [15796,10480],rx 18 [313] [10480]],rx 18 [313] [15796])]:=by
  repeat' (first|exact .nil|refine au ?_ ?_)
  all_goals(
   intro ρ h;simp only[vS,IE.den,BE.den,LE.den]at h⊢
   obtain⟨h0,h1⟩:=h
   simp only[h0];exact h1)
theorem as3:ab [([eql 10424 315,rx 0 [] [10424,315],rx 0 [] [10444,308],rx 0 [] [10445,309],leq (c 0) 314,leq 314 (c 64),rx 16 [246,247,249,250,251,252,253,254,255,256,257,314,313,311,312] [],rx 12 [314,246,249,250,257,313,247,(c 0),(c 1)] [308],rx 18 [313] [309],eql 315 (c 0),rx 48 [210] [210],leq (c 0) 210,leq 210 (c 8),leq (c 0) 211,leq 211 (c 64),rx 16 [246,247,249,250,251,252,253,254,255,256,257,(c 0),210,210,211] []],rx 7 [10424,314] [10424])]:=by
 repeat' (first|exact .nil|refine au ?_ ?_)
 all_goals(
  intro ρ h;simp only[vS,IE.den,BE.den,LE.den]at h⊢
  obtain⟨h0,h1,h2,h3,h4,h5,h6,h7,h8,h9,h10⟩:=h
  rw[h0,h9];exact⟨by omega,by omega,fun a ha=>absurd ha (by omega),fun a b ha=>absurd ha (by omega)⟩)
theorem as4:ab [([leq (c 0) 10406,.imp 204 (rx 52 [21] [22]),lss 10406 (.nat 21),fb 204],leq (gx 22 10406 0) (c 1000000)),
([eql 15775 10486,eql 15789 10524,.imp (ex 10524 (c 0)) (eql 10486 (c 0))],fb (ix (ex 15789 (c 0)) (ex 15775 (c 0)) (.lit true)))]:=kj
theorem as5:ab [([eql 10758 (wx (.add 10757 (c 1))),leq (c 0) 10757,leq 10757 (.nat 10747),eql 10747 314,rx 16 [246,247,249,250,251,252,253,254,255,256,257,314,313,311,312] []],leq (c 0) 10758)]:=lm
theorem as6:ab [([eql 15775 10486,rx 0 [] [15775,10486],rx 7 [10486,314] [10486]],rx 7 [15775,314] [15775])]:=by
 repeat' (first|exact .nil|refine au ?_ ?_)
 all_goals(
  intro ρ h;simp only[vS,IE.den,BE.den,LE.den]at h⊢
  obtain⟨h0,h1,h2⟩:=h
  simp only[h0,h1];exact h2)
theorem as7:ab [([leq (c 0) 121,leq 121 (c 255),leq (c 0) 122,leq 122 (c 255),leq (c 0) 123,leq 123 (c 255),leq (c 0) 124,leq 124 (c 255),leq (c 0) 125,leq 125 (c 255),leq (c 0) 126,leq 126 (c 255),leq (c 0) 127,leq 127 (c 255),leq (c 0) 128,leq 128 (c 255),leq (c 0) 129,leq 129 (c 255),leq (c 0) 130,leq 130 (c 255),leq (c 0) 131,leq 131 (c 255),leq (c 0) 132,leq 132 (c 65535),leq (c 0) 20,leq 20 (c 4611686018427387904),leq (c 0) 21,leq 21 (c 4611686018427387904),leq (c 0) 10757,leq 10757 (.nat 10747),rx 39 [314] [10747,10479],eql 10747 314,rx 12 [314,246,249,250,257,313,247,10524,10592] [10479],leq (c 0) 10486,leq 10486 (c 1000000),leq (c 0) 10424,leq 10424 (c 1000000),leq (c 0) 10488,leq 10488 (c 1000000),leq (c 0) 10489,leq 10489 (c 1000000),leq (c 0) 10490,leq 10490 (c 1000000),leq (c 0) 10517,leq 10517 (c 1),leq (c 0) 10491,leq 10491 (c 1000000),leq (c 0) 10592,leq 10592 (c 2),rx 36 [314,249,256,10525] [10479,10444],.imp (ix (.cmp .neq 10407 (c 0)) (.cmp .neq 10592 10407) (.lit false)) (rx 6 [314] [10479]),leq (c 0) (gx 22 10406 0),leq (gx 22 10406 0) (c 4611686018427387904),rx 39 [314] [10466,10444],eql 10466 314,rx 12 [314,246,249,250,257,313,247,10438,10407] [10444],fb (ix (ex 10438 (c 0)) (ex 10424 (c 0)) (.lit true)),leq (c 0) 10424,leq 10424 (c 1000000),leq (c 0) 10428,leq 10428 (c 1000000),leq (c 0) 10429,leq 10429 (c 1000000),leq (c 0) 10430,leq 10430 (c 1000000),leq (c 0) 10432,leq 10432 (c 1000000),leq (c 0) 10437,leq 10437 (c 1000000),leq (c 0) 10431,leq 10431 (c 1),leq (c 0) 10407,leq 10407 (c 2),leq (c 0) 10406,leq 10406 (.nat 21),leq (c 0) 314,leq 314 (c 64),rx 16 [246,247,249,250,251,252,253,254,255,256,257,314,313,311,312] [],rx 12 [314,246,249,250,257,313,247,(c 0),(c 1)] [308],leq (c 0) 324,leq 324 (c 8),eql 315 (c 0),eql 316 (c 0),eql 317 (c 0),eql 318 (c 0),eql 319 (c 0),eql 321 (c 0),leq (c 0) 320,leq 320 (c 64),leq (c 0) 210,leq 210 (c 8),leq (c 0) 211,leq 211 (c 64),rx 16 [246,247,249,250,251,252,253,254,255,256,257,(c 0),210,210,211] [],fb 202,fb (ix (ix (.cmp .neq 10407 (c 0)) (ex 10592 (c 0)) (.lit false)) (ix (.cmp .neq (gx 10747 10757 6) (c (-1))) (.lit true) (ix (.cmp .neq (gx 10747 10757 2) (c 0)) (nx (ex (gx 10747 10757 5) (wx (.sub (gx 10466 10757 5) 256)))) (.lit false))) (.lit false)),lss 10757 (.nat 10747),lss 10406 (.nat 21),fb 204,fb 202],fb (.lit false))]:=by
 repeat' (first|exact .nil|refine au ?_ ?_)
 all_goals(
  intro ρ;(intro h;simp only[vS,IE.den,BE.den,LE.den]at h⊢;revert h;(try simp only[and_imp]);intros)
  have t:=(by assumption:ac 33 [ρ.i 314,ρ.i 249,ρ.i 256,ρ.i 10525] [ρ.l 10479,ρ.l 10444])
  have s1:=(by assumption:ac 36 [ρ.i 314] [ρ.l 10747,ρ.l 10479])
  have iv:=(by assumption:ac 9 [ρ.i 314,ρ.i 246,ρ.i 249,ρ.i 250,ρ.i 257,ρ.i 313,ρ.i 247,ρ.i 10524,ρ.i 10592] [ρ.l 10479])
  have cf:=(by assumption:ac 13 [ρ.i 246,ρ.i 247,ρ.i 249,ρ.i 250,ρ.i 251,ρ.i 252,ρ.i 253,ρ.i 254,ρ.i 255,ρ.i 256,ρ.i 257,ρ.i 314,ρ.i 313,ρ.i 311,ρ.i 312] [])
  simp only[ac,aV]at cf
  have hk:((ρ.i 10757).toNat:Int)<ρ.i 314:=by((try simp only[IntKind.wrap_i64,Int.ofNat_toNat]at*);omega)
  simp only[ac,tD,xi,inv]at t s1 iv
  have t:=t _ hk
  obtain⟨q0,q1,q2,q3,q4,q5,q6⟩:=s1 _ hk
  have iv:=iv.1 _ hk
  simp only[aC]at iv
  obtain⟨i0,i1,i3,i4,i5,i6,i9,i11,-⟩:=iv
  simp only[xh]at t
  obtain⟨t10,t1,t2,t3,t4⟩:=t
  have s0:=(by assumption:ac 36 [ρ.i 314] [ρ.l 10466,ρ.l 10444])
  have iv0:=(by assumption:ac 9 [ρ.i 314,ρ.i 246,ρ.i 249,ρ.i 250,ρ.i 257,ρ.i 313,ρ.i 247,ρ.i 10438,ρ.i 10407] [ρ.l 10444])
  simp only[ac,xi,inv]at s0 iv0
  obtain⟨p0,p1,p2,p3,p4,p5,p6⟩:=s0 _ hk
  have iv0:=iv0.1 _ hk
  simp only[aC]at iv0
  obtain⟨j0,j1,j3,j4,j5,j6,j9,j11,-⟩:=iv0
  simp only[p1,p2,p3,p5,p6,q1,q2,q3,q5,q6]at*
  (try simp(disch:=omega) only[cq]at*)
  have nj:ρ.i 10407≠0→ρ.i 10592≠ρ.i 10407→ρ.l 10479 (ρ.i 10757).toNat 11= -1:=fun h1 h2=>by
   have:=(by assumption:(ρ.i 10407≠0∧ρ.i 10592≠ρ.i 10407∨¬ρ.i 10407≠0∧False)→ac 3 [ρ.i 314] [ρ.l 10479]) (.inl ⟨h1,h2⟩)
   exact this _ hk
  simp only[ab2,xN]at*
  omega)
theorem as8:ab [([leq (c 0) 121,leq 121 (c 255),leq (c 0) 122,leq 122 (c 255),leq (c 0) 123,leq 123 (c 255),leq (c 0) 124,leq 124 (c 255),leq (c 0) 125,leq 125 (c 255),leq (c 0) 126,leq 126 (c 255),leq (c 0) 127,leq 127 (c 255),leq (c 0) 128,leq 128 (c 255),leq (c 0) 129,leq 129 (c 255),leq (c 0) 130,leq 130 (c 255),leq (c 0) 131,leq 131 (c 255),leq (c 0) 132,leq 132 (c 65535),leq (c 0) 20,leq 20 (c 4611686018427387904),leq (c 0) 21,leq 21 (c 4611686018427387904),leq (c 0) 10757,leq 10757 (.nat 10747),rx 39 [314] [10747,10479],eql 10747 314,rx 12 [314,246,249,250,257,313,247,10524,10592] [10479],leq (c 0) 10486,leq 10486 (c 1000000),leq (c 0) 10424,leq 10424 (c 1000000),leq (c 0) 10488,leq 10488 (c 1000000),leq (c 0) 10489,leq 10489 (c 1000000),leq (c 0) 10490,leq 10490 (c 1000000),leq (c 0) 10517,leq 10517 (c 1),leq (c 0) 10491,leq 10491 (c 1000000),leq (c 0) 10592,leq 10592 (c 2),rx 36 [314,249,256,10525] [10479,10444],leq (c 0) (gx 22 10406 0),leq (gx 22 10406 0) (c 4611686018427387904),rx 39 [314] [10466,10444],eql 10466 314,rx 12 [314,246,249,250,257,313,247,10438,10407] [10444],fb (ix (ex 10438 (c 0)) (ex 10424 (c 0)) (.lit true)),leq (c 0) 10424,leq 10424 (c 1000000),leq (c 0) 10428,leq 10428 (c 1000000),leq (c 0) 10429,leq 10429 (c 1000000),leq (c 0) 10430,leq 10430 (c 1000000),leq (c 0) 10432,leq 10432 (c 1000000),leq (c 0) 10437,leq 10437 (c 1000000),leq (c 0) 10431,leq 10431 (c 1),leq (c 0) 10407,leq 10407 (c 2),leq (c 0) 10406,leq 10406 (.nat 21),leq (c 0) 314,leq 314 (c 64),rx 16 [246,247,249,250,251,252,253,254,255,256,257,314,313,311,312] [],rx 12 [314,246,249,250,257,313,247,(c 0),(c 1)] [308],leq (c 0) 324,leq 324 (c 8),eql 315 (c 0),eql 316 (c 0),eql 317 (c 0),eql 318 (c 0),eql 319 (c 0),eql 321 (c 0),leq (c 0) 320,leq 320 (c 64),leq (c 0) 210,leq 210 (c 8),leq (c 0) 211,leq 211 (c 64),rx 16 [246,247,249,250,251,252,253,254,255,256,257,(c 0),210,210,211] [],fb 202,fb (ix (ix (ex 10525 (c 0)) (.cmp .neq (gx 10747 10757 2) (c 0)) (.lit false)) (nx (ex (gx 10747 10757 5) (wx (.sub (gx 10466 10757 5) 256)))) (.lit false)),fb (nx (ix (ix (.cmp .neq 10407 (c 0)) (ex 10592 (c 0)) (.lit false)) (ix (.cmp .neq (gx 10747 10757 6) (c (-1))) (.lit true) (ix (.cmp .neq (gx 10747 10757 2) (c 0)) (nx (ex (gx 10747 10757 5) (wx (.sub (gx 10466 10757 5) 256)))) (.lit false))) (.lit false))),lss 10757 (.nat 10747),lss 10406 (.nat 21),fb 204,fb 202],fb (.lit false))]:=by
 repeat' (first|exact .nil|refine au ?_ ?_)
 all_goals(
  intro ρ;(intro h;simp only[vS,IE.den,BE.den,LE.den]at h⊢;revert h;(try simp only[and_imp]);intros)
  have t:=(by assumption:ac 33 [ρ.i 314,ρ.i 249,ρ.i 256,ρ.i 10525] [ρ.l 10479,ρ.l 10444])
  have s1:=(by assumption:ac 36 [ρ.i 314] [ρ.l 10747,ρ.l 10479])
  have iv:=(by assumption:ac 9 [ρ.i 314,ρ.i 246,ρ.i 249,ρ.i 250,ρ.i 257,ρ.i 313,ρ.i 247,ρ.i 10524,ρ.i 10592] [ρ.l 10479])
  have cf:=(by assumption:ac 13 [ρ.i 246,ρ.i 247,ρ.i 249,ρ.i 250,ρ.i 251,ρ.i 252,ρ.i 253,ρ.i 254,ρ.i 255,ρ.i 256,ρ.i 257,ρ.i 314,ρ.i 313,ρ.i 311,ρ.i 312] [])
  simp only[ac,aV]at cf
  have hk:((ρ.i 10757).toNat:Int)<ρ.i 314:=by((try simp only[IntKind.wrap_i64,Int.ofNat_toNat]at*);omega)
  simp only[ac,tD,xi,inv]at t s1 iv
  have t:=t _ hk
  obtain⟨q0,q1,q2,q3,q4,q5,q6⟩:=s1 _ hk
  have iv:=iv.1 _ hk
  simp only[aC]at iv
  obtain⟨i0,i1,i3,i4,i5,i6,i9,i11,-⟩:=iv
  simp only[xh]at t
  obtain⟨t10,t1,t2,t3,t4⟩:=t
  have s0:=(by assumption:ac 36 [ρ.i 314] [ρ.l 10466,ρ.l 10444])
  have iv0:=(by assumption:ac 9 [ρ.i 314,ρ.i 246,ρ.i 249,ρ.i 250,ρ.i 257,ρ.i 313,ρ.i 247,ρ.i 10438,ρ.i 10407] [ρ.l 10444])
  simp only[ac,xi,inv]at s0 iv0
  obtain⟨p0,p1,p2,p3,p4,p5,p6⟩:=s0 _ hk
  have iv0:=iv0.1 _ hk
  simp only[aC]at iv0
  obtain⟨j0,j1,j3,j4,j5,j6,j9,j11,-⟩:=iv0
  simp only[p1,p2,p3,p5,p6,q1,q2,q3,q5,q6]at*
  (try simp(disch:=omega) only[cq]at*)
  simp only[ab2,xN]at*
  omega)
theorem arh:asd.ok Tryz.prog:=ao (.cons Vl (.cons a9z (.cons UZ (.cons a9u (.cons uf (.cons GF (.cons Lu (.cons GI .nil)))))))) HL (a5t as0 (a5t as1 (a5t as2 (a5t as3 (a5t as4 (a5t as5 (a5t as6 (a5t as7 as8)))))))) [3,4,5,2,2,0,2,6,7,8,9,56,58,60,10,11,12,13,14,15,16,17,18,19,20,21,22,23,24,25,26,27,28,2,2,0,2,29,30,61,31,32,2,2,0,2,33,34,2,2,0,2,2,0,2,2,0,35,63,36,37,57,59,64,62,38,39,40,41,42,43,44,45,46,47,48,49,50,51,52,53,54,55,1,0,0,65,66,0] (by kernel_rfl)
end Go.Proofs.YteelgjcnkhmigaaGreatDoor.K
