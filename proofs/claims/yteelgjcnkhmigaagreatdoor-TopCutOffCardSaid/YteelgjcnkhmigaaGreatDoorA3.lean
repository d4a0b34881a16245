/- Part 3 of the proofs of TopPhases, TopDoors and TopCutOff (over all inputs, no condition): the executor, and what the functions that they reach do. -/
import Derived.Test.YteelgjcnkhmigaaGreatDoorA2
import Derived.WalkKit
import Derived.Deep.RegionLaw
import Derived.Lib.Walk
import Derived.Lib.SliceRun
import Derived.Shelf.RegionOpenPlain
import Derived.Defers
import Derived.Tactics
import Derived.Tactics2
import Derived.Laws.Pointers
import Derived.RegionTactic
import Derived.RegionCalls
set_option linter.unusedVariables false
set_option linter.unusedSimpArgs false
set_option linter.unusedSectionVars false
set_option maxHeartbeats 0
set_option maxRecDepth 100000
namespace Go.Proofs.YteelgjcnkhmigaaGreatDoor.K
open Go.RowKit Go.Proofs.YteelgjcnkhmigaaGreatDoor.E
theorem rO:ab [([leq 0 (c 1000000)],leq (.add (c 0) (.nat 0)) (c 4294967296)),
([leq (c 0) 0],eql (.add (c 0) (.nat 0)) 0)]:=dS
theorem rP:ab [([leq (c 0) 0,.imp (nx 0) (leq 0 (c 0)),fb (nx 0)],eql (c 0) 0)]:=s8
theorem rQ:ab [([.imp (nx 0) (leq 0 (c 0)),fb (nx 0)],rx 3 [0] [1,0]),
([rx 1 [(c 0)] [0,0,2]],rx 3 [0] [2,0])]:=qR
theorem fO:xm.ok Tryz.prog:=ao aS.nil gK (a5t rO (a5t rP rQ)) [3,0,5,6,4,7] (by kernel_rfl)
theorem xz:ab [([leq 0 (c 1000000)],leq (.add (c 0) (.nat 0)) (c 4294967296)),
([leq (c 0) 0],eql (.add (c 0) (.nat 0)) 0)]:=dS
theorem xA:ab [([leq (c 0) 0,.imp (nx 0) (leq 0 (c 0)),fb (nx 0)],eql (c 0) 0)]:=s8
theorem xB:ab [([.imp (nx 0) (leq 0 (c 0)),fb (nx 0)],rx 3 [0] [1,0]),
([rx 1 [(c 0)] [0,0,2]],rx 3 [0] [2,0])]:=qR
theorem oC:Pc.ok Tryz.prog:=ao aS.nil gK (a5t xz (a5t xA xB)) [3,0,5,6,4,7] (by kernel_rfl)
theorem up:ab [([leq 0 (c 1000000)],leq (.add (c 0) (.nat 0)) (c 4294967296)),
([leq (c 0) 0],eql (.add (c 0) (.nat 0)) 0)]:=dS
theorem uq:ab [([leq (c 0) 0,.imp (nx 0) (leq 0 (c 0)),fb (nx 0)],eql (c 0) 0)]:=s8
theorem ur:ab [([.imp (nx 0) (leq 0 (c 0)),fb (nx 0)],rx 3 [0] [1,0]),
([rx 1 [(c 0)] [0,0,2]],rx 3 [0] [2,0])]:=qR
theorem nr:Hz.ok Tryz.prog:=ao aS.nil gK (a5t up (a5t uq ur)) [3,0,5,6,4,7] (by kernel_rfl)
theorem us:ab [([leq 0 (c 1000000)],leq (.add (c 0) (.nat 0)) (c 4294967296)),
([leq (c 0) 0],eql (.add (c 0) (.nat 0)) 0)]:=dS
theorem ut:ab [([leq (c 0) 0,.imp (nx 0) (leq 0 (c 0)),fb (nx 0)],eql (c 0) 0)]:=s8
theorem uu:ab [([.imp (nx 0) (leq 0 (c 0)),fb (nx 0)],rx 3 [0] [1,0]),
([rx 1 [(c 0)] [0,0,2]],rx 3 [0] [2,0])]:=qR
theorem ns:HA.ok Tryz.prog:=ao aS.nil gK (a5t us (a5t ut uu)) [3,0,5,6,4,7] (by kernel_rfl)
theorem adb:ab [([eql 12 (c 0)],leq (c 0) 12),
([eql 12 (c 0),leq (c 0) 0],leq 12 0),
([eql 14 (wx (.add 12 (c 1))),lss 12 (.nat 0),leq (c 0) 0,leq 0 (c 1000000)],lss (.nat (.sub 0 14)) (.nat (.sub 0 12))),
([eql 14 (wx (.add 12 (c 1))),leq (c 0) 12,lss 12 (.nat 0),leq 0 (c 1000000)],leq (c 0) 14),
([eql 14 (wx (.add 12 (c 1))),leq (c 0) 12,lss 12 (.nat 0)],leq 14 0)]:=dS
theorem adc:ab [([eql 12 (c 0)],rx 4 [12,5] [0]),
([leq (c 0) 12,eql (gx 0 12 0) 5,lss 12 (.nat 0)],rx 5 [12,0,5] [0]),
([leq 12 0,rx 4 [12,5] [0],fb (nx (lx 12 (.nat 0)))],rx 5 [(c (-1)),0,5] [0])]:=qR
theorem ade:ab [([eql 14 (wx (.add 12 (c 1))),leq (c 0) 12,rx 4 [12,5] [0],fb (nx (ex (gx 0 12 0) 5)),lss 12 (.nat 0),leq 0 (c 1000000)],rx 4 [14,5] [0])]:=va4
theorem xC:atC.ok Tryz.prog:=ao aS.nil aam (a5t adb (a5t adc ade)) [3,4,8,2,2,0,5,6,7,11,9,10] (by kernel_rfl)
theorem HR:ab [([eql 1 (c 0)],leq (c 0) 1),
([eql 1 (c 0)],leq 1 (.nat 0)),
([eql 4 (wx (.add 1 (c 1))),lss 1 (.nat 0),leq 0 (c 1000000)],lss (.nat (.sub (.nat 0) 4)) (.nat (.sub (.nat 0) 1))),
([eql 4 (wx (.add 1 (c 1))),leq (c 0) 1,lss 1 (.nat 0),leq 0 (c 1000000)],leq (c 0) 4),
([eql 4 (wx (.add 1 (c 1))),leq (c 0) 1,lss 1 (.nat 0)],leq 4 (.nat 0))]:=dS
theorem tL:a74.ok Tryz.prog:=ao aS.nil qx HR [3,4,2,2,0,5,6,7] (by kernel_rfl)
theorem a7p:ab [([eql 11 (c 0),eql 12 (c 0)],eql 12 11),
([eql 11 (c 0)],leq (c 0) 11),
([eql 11 (c 0)],leq 11 (.nat 0)),
([eql 12 11,lss 11 (.nat 0),leq 0 (c 1000000)],leq (.add (.nat 12) (c 1)) (c 4294967296)),
([eql 12 11,leq (c 0) 11],leq (c 0) 12),
([eql 16 (wx (.add 11 (c 1))),lss 11 (.nat 0),leq 0 (c 1000000)],lss (.nat (.sub (.nat 0) 16)) (.nat (.sub (.nat 0) 11))),
([eql 16 (wx (.add 11 (c 1))),eql 17 (.add (.nat 12) (c 1)),eql 12 11,leq (c 0) 11,leq 11 (.nat 0),leq 0 (c 1000000)],eql 17 16),
([eql 16 (wx (.add 11 (c 1))),leq (c 0) 11,leq 11 (.nat 0),leq 0 (c 1000000)],leq (c 0) 16),
([eql 16 (wx (.add 11 (c 1))),leq (c 0) 11,lss 11 (.nat 0)],leq 16 (.nat 0)),
([eql 12 11,leq (c 0) 11],leq (c 0) 12),
([eql 12 11,leq 11 (.nat 0),leq 0 (c 1000000)],leq 12 (c 1000000))]:=dS
theorem xD:aeo.ok Tryz.prog:=ao (.cons tL .nil) qx a7p [3,4,5,2,2,0,6,7,8,9,10,11,7,13] (by kernel_rfl)
theorem a7q:ab [([eql 13 12,rx 0 [] [13,12],eql 12 0,rx 3 [0] [12,0],rx 7 [0,8] [0]],rx 7 [13,8] [13])]:=qR
theorem a7r:ab [([eql 14 (c 0)],rx 8 [14,8] [14])]:=kj
theorem a7s:ab [([eql 13 12,eql 12 0,leq (c 0) 0],leq (c 0) 13),
([eql 14 (c 0)],leq (c 0) 14),
([eql 13 12,eql 14 (c 0),eql 12 0],leq (.add 13 14) 0),
([leq (c 0) 14,leq (.add 13 14) 0,leq 0 (c 1000000)],leq 13 (c 1000000)),
([fb (nx (ix (lx (wx (.sub (.nat 13) (c 1))) (c 0)) (.lit true) (jx 15 (.mn (.mx 5 (c 0)) (c 1048576)))))],leq (c 0) (wx (.sub (.nat 13) (c 1)))),
([],lss (wx (.sub (.nat 13) (c 1))) (.nat 13)),
([fb (nx (ix (lx (wx (.sub (.nat 13) (c 1))) (c 0)) (.lit true) (jx 15 (.mn (.mx 5 (c 0)) (c 1048576)))))],lss (.nat (wx (.sub (.nat 13) (c 1)))) (.nat 13)),
([leq (.add 13 14) 0,fb (nx (ix (lx (wx (.sub (.nat 13) (c 1))) (c 0)) (.lit true) (jx 15 (.mn (.mx 5 (c 0)) (c 1048576))))),leq 0 (c 1000000)],leq (.add (.nat 14) (c 1)) (c 4294967296)),
([],leq (wx (.sub (.nat 13) (c 1))) (.nat 13)),
([eql 20 (.sub (wx (.sub (.nat 13) (c 1))) (c 0)),fb (nx (ix (lx (wx (.sub (.nat 13) (c 1))) (c 0)) (.lit true) (jx 15 (.mn (.mx 5 (c 0)) (c 1048576)))))],lss (.nat 20) (.nat 13)),
([eql 20 (.sub (wx (.sub (.nat 13) (c 1))) (c 0)),fb (nx (ix (lx (wx (.sub (.nat 13) (c 1))) (c 0)) (.lit true) (jx 15 (.mn (.mx 5 (c 0)) (c 1048576)))))],leq (c 0) 20),
([eql 21 (.add (.nat 14) (c 1))],leq (c 0) 21),
([eql 20 (.sub (wx (.sub (.nat 13) (c 1))) (c 0)),eql 21 (.add (.nat 14) (c 1)),leq (c 0) 13,leq (c 0) 14,leq (.add 13 14) 0],leq (.add 20 21) 0)]:=dS
theorem a7t:ab [([eql 20 (.sub (wx (.sub (.nat 13) (c 1))) (c 0)),rx 0 [] [20,19],rx 2 [(c 0)] [13,19],rx 7 [13,8] [13],leq (c 0) 14,leq (.add 13 14) 0,fb (nx (ix (lx (wx (.sub (.nat 13) (c 1))) (c 0)) (.lit true) (jx 15 (.mn (.mx 5 (c 0)) (c 1048576))))),leq 0 (c 1000000)],rx 7 [20,8] [20])]:=va4
theorem ahx:ab [([eql 20 (.sub (wx (.sub (.nat 13) (c 1))) (c 0)),rx 0 [] [20,19],eql 21 (.add (.nat 14) (c 1)),rx 0 [] [21,(ux 14 (.nat 14) 0 (gx 13 (wx (.sub (.nat 13) (c 1))) 0))],rx 2 [(c 0)] [13,19],rx 7 [13,8] [13],rx 8 [14,8] [14],leq (c 0) 13,leq (c 0) 14,leq (.add 13 14) 0,eql 12 0,rx 3 [0] [12,0],fb (nx (ix (lx (wx (.sub (.nat 13) (c 1))) (c 0)) (.lit true) (jx 15 (.mn (.mx 5 (c 0)) (c 1048576))))),rx 7 [0,8] [0],leq (c 0) 0,leq 0 (c 1000000)],rx 8 [21,8] [21])]:=by
 repeat' (first|exact .nil|refine au ?_ ?_)
 all_goals(
  intro ρ h;simp only[vS,IE.den,BE.den,LE.den,IntKind.wrap_i64]at h⊢
  obtain⟨h0,h1,h2,h3,h4,h5,h6,h7,h8,h9,h10,h11,h12,h13,h14,h15⟩:=h
  intro a ha
  rw[h3];simp only[ae,and_true,Int.toNat_natCast]
  split
  ·exact h5.2.2.1 _ (by omega)
  ·rename_i e;exact h6 a (by omega))
theorem a7u:agy.ok Tryz.prog:=ao (.cons fO (.cons xD .nil)) qx (a5t a7q (a5t a7r (a5t a7s (a5t a7t ahx)))) [3,4,5,6,7,8,9,10,11,12,2,0,9,13,14,18,19,15,16,17,2,2,2,2,2] (by kernel_rfl)
theorem Ps:ab [([eql 16 0,leq 0 (c 1000000)],leq (.add (.nat 16) (c 1)) (c 4294967296)),
([eql 16 0,leq (c 0) 0],leq (c 0) 16),
([],leq (c 0) (.add (.nat 16) (c 1)))]:=dS
theorem Pt:ab [([rx 7 [0,8] [0]],leq 0 8),
([rx 7 [0,8] [0]],leq 0 8),
([rx 7 [0,8] [0]],leq 0 8)]:=lm
theorem Pu:ab [([rx 7 [0,8] [0],leq (c 0) 0,leq 0 (c 1000000),leq (c 0) 5,lss 5 8,eql 16 0,rx 3 [0] [16,0],rx 5 [12,0,5] [0],fb (nx (.cmp .gtr (wx (.add (wx (.add 13 7)) (.ite (ex (.nat 0) (c 0)) (c 0) (.mx (wx (.sub 2 3)) (c 0))))) 1)),fb (nx (.cmp .geq 12 (c 0))),fb (nx (ix (nx (ix (.cmp .geq 5 (c 0)) (lx 5 (c 64)) (.lit false))) (.lit true) (nx (ix (.cmp .geq 7 (c 0)) (jx 7 (c 1048576)) (.lit false)))))],rx 7 [(.add (.nat 16) (c 1)),8] [(ux (ux 16 (.nat 16) 0 5) (.nat 16) 1 7)])]:=by
 repeat' (first|exact .nil|refine au ?_ ?_)
 all_goals(
  intro ρ h;simp only[vS,IE.den,BE.den,LE.den]at h⊢
  obtain⟨h0,h1,h2,h3,h4,h5,h6,h7,h8,h9,h10⟩:=h
  have hn:ρ.i 12<0:=by omega
  have q:=h7.2.2.2 hn
  have hr:=afp (m:=ρ.i 0) (n:=ρ.i 8) (x:=ρ.i 5) (l:=ρ.l 0) h0 h3 h4 q
  obtain⟨p0,p1,p2,p3⟩:=h0
  refine⟨by omega,by omega,fun a ha=>?_,fun a b ha hb=>?_⟩
  ·have s:=h6 a 0;have p:=p2 a
   clear q p2 p3 h6 h7
   simp only[ae,Int.toNat_natCast]
   grind
  ·have s:=h6 a 0;have s':=h6 b 0;have p:=p3 a b;have qa:=q a;have qb:=q b
   clear q p2 p3 h6 h7
   simp only[ae,Int.toNat_natCast]
   grind)
theorem Pv:ab [([rx 7 [0,8] [0],leq (c 0) 0,leq 0 (c 1000000),leq (c 0) 5,lss 5 8,eql 16 0,rx 3 [0] [16,0],rx 5 [12,0,5] [0],fb (nx (.cmp .gtr (wx (.add (wx (.add 13 7)) (.ite (ex (.nat 0) (c 0)) (c 0) (.mx (wx (.sub 2 3)) (c 0))))) 1)),fb (nx (.cmp .geq 12 (c 0))),fb (nx (ix (nx (ix (.cmp .geq 5 (c 0)) (lx 5 (c 64)) (.lit false))) (.lit true) (nx (ix (.cmp .geq 7 (c 0)) (jx 7 (c 1048576)) (.lit false)))))],leq (.add (.nat 16) (c 1)) 8)]:=by
 repeat' (first|exact .nil|refine au ?_ ?_)
 all_goals(
  intro ρ h;simp only[vS,IE.den,BE.den,LE.den]at h⊢
  obtain⟨h0,h1,h2,h3,h4,h5,h6,h7,h8,h9,h10⟩:=h
  have hn:ρ.i 12<0:=by omega
  have hr:=afp (m:=ρ.i 0) (n:=ρ.i 8) (x:=ρ.i 5) (l:=ρ.l 0) h0 h3 h4 (h7.2.2.2 hn)
  omega)
theorem Pw:aca.ok Tryz.prog:=ao (.cons fO (.cons xC (.cons xD .nil))) qx (a5t Ps (a5t Pt (a5t Pu Pv))) [3,4,2,2,6,2,2,6,2,2,6,9,5,10] (by kernel_rfl)
theorem a7v:ab [([leq 0 (c 1000000)],leq (.nat 0) (c 4294967296)),
([leq (c 0) 0],eql (.nat 0) 0)]:=dS
theorem xE:agz.ok Tryz.prog:=ao aS.nil gK a7v [0,3,4] (by kernel_rfl)
theorem Yr:ab [([fb (nx (ix (lx 2 (c 0)) (.lit true) (.cmp .geq 2 (.mn 3 (c 32)))))],fb (.cmp .geq 2 (c 0)))]:=dS
theorem Ys:aeq.ok Tryz.prog:=ao (.cons xE .nil) gK Yr [3,2] (by kernel_rfl)
theorem a7w:ab [([fb (nx (ix (lx 3 (c 0)) (.lit true) (.cmp .geq 3 (.mn 4 (c 32)))))],fb (.cmp .geq 3 (c 0))),
([fb (nx (ix (ex (.ite (ix (lx 3 (c 0)) (.lit true) (.cmp .geq 3 (.mn 4 (c 32)))) (c 0) (.shl .u32 (c 1) 3)) (c 0)) (.lit true) (nx (ix (.cmp .geq 2 (c 0)) (lx 2 (.nat 13)) (.lit false)))))],lss 2 (.nat 13))]:=dS
theorem a7x:ab [([fb (nx (ix (ex (.ite (ix (lx 3 (c 0)) (.lit true) (.cmp .geq 3 (.mn 4 (c 32)))) (c 0) (.shl .u32 (c 1) 3)) (c 0)) (.lit true) (nx (ix (.cmp .geq 2 (c 0)) (lx 2 (.nat 13)) (.lit false)))))],leq (c 0) 2),
([fb (nx (ix (ex (.ite (ix (lx 3 (c 0)) (.lit true) (.cmp .geq 3 (.mn 4 (c 32)))) (c 0) (.shl .u32 (c 1) 3)) (c 0)) (.lit true) (nx (ix (.cmp .geq 2 (c 0)) (lx 2 (.nat 13)) (.lit false)))))],lss (.nat 2) (.nat 13))]:=s8
theorem a7y:ah0.ok Tryz.prog:=ao (.cons xE .nil) gK (a5t a7w a7x) [3,5,4,6,5,4,6,2,2] (by kernel_rfl)
theorem Yt:ab [([fb (nx (ix (lx 3 (c 0)) (.lit true) (.cmp .geq 3 (c 32))))],fb (.cmp .geq 3 (c 0))),
([fb (ix (.cmp .geq 2 (c 0)) (lx 2 (.nat 13)) (.lit false))],lss 2 (.nat 13))]:=dS
theorem Yu:ab [([fb (ix (.cmp .geq 2 (c 0)) (lx 2 (.nat 13)) (.lit false))],leq (c 0) 2),
([fb (ix (.cmp .geq 2 (c 0)) (lx 2 (.nat 13)) (.lit false))],lss (.nat 2) (.nat 13))]:=s8
theorem D0:aer.ok Tryz.prog:=ao (.cons xE .nil) gK (a5t Yt Yu) [3,5,4,6,5,4,6,2,2,2,2] (by kernel_rfl)
theorem Yv:ab [([eql 200 (c 0)],rx 6 [200] [2]),
([leq (c 0) 200],.imp (nx (.cmp .geq 200 (c 0))) (rx 6 [8] [2])),
([fb (.cmp .neq (gx 2 200 11) (c (-1))),lss 200 (.nat 8)],.imp (.cmp .geq 200 (c 0)) (rx 29 [8] [2])),
([rx 6 [200] [2],fb (nx (lx 200 (.nat 8)))],.imp (.lit true) (rx 6 [8] [2])),
([],.imp (.lit false) (rx 29 [8] [2]))]:=kj
theorem Yw:ab [([eql 200 (c 0)],leq (c 0) 200),
([eql 200 (c 0)],leq 200 (.nat 8)),
([eql 201 (wx (.add 200 (c 1))),lss 200 (.nat 8),leq 8 (c 64)],lss (.nat (.sub (.nat 8) 201)) (.nat (.sub (.nat 8) 200))),
([eql 201 (wx (.add 200 (c 1))),leq (c 0) 200,leq 200 (.nat 8),leq 8 (c 64)],leq (c 0) 201),
([eql 201 (wx (.add 200 (c 1))),leq (c 0) 200,lss 200 (.nat 8)],leq 201 (.nat 8))]:=dS
theorem Yx:ab [([eql 201 (wx (.add 200 (c 1))),rx 6 [200] [2],leq (c 0) 200,fb (nx (.cmp .neq (gx 2 200 11) (c (-1)))),lss 200 (.nat 8),leq 8 (c 64)],rx 6 [201] [2])]:=va4
theorem tM:aet.ok Tryz.prog:=ao aS.nil XU (a5t Yv (a5t Yw Yx)) [3,8,9,2,2,0,0,10,13,11,12,4,5,6,7] (by kernel_rfl)
theorem a7z:ab [([eql 200 (c 0),rx 0 [] [201,2]],rx 15 [200,8,150] [201,2])]:=qR
theorem a80:ab [([eql 200 (c 0)],leq (c 0) 200),
([eql 200 (c 0)],leq 200 (.nat 8)),
([eql 202 (wx (.add 200 (c 1))),lss 200 (.nat 8),leq 8 (c 64)],lss (.nat (.sub (.nat 8) 202)) (.nat (.sub (.nat 8) 200))),
([eql 202 (wx (.add 200 (c 1))),leq (c 0) 200,lss 200 (.nat 8),leq 8 (c 64)],leq (c 0) 202),
([eql 202 (wx (.add 200 (c 1))),leq (c 0) 200,lss 200 (.nat 8)],leq 202 (.nat 8)),
([eql 204 (wx (.add 200 (c 1))),lss 200 (.nat 8),leq 8 (c 64)],lss (.nat (.sub (.nat 8) 204)) (.nat (.sub (.nat 8) 200))),
([eql 204 (wx (.add 200 (c 1))),leq (c 0) 200,lss 200 (.nat 8),leq 8 (c 64)],leq (c 0) 204),
([eql 204 (wx (.add 200 (c 1))),leq (c 0) 200,lss 200 (.nat 8)],leq 204 (.nat 8))]:=dS
theorem a81:ab [([eql 202 (wx (.add 200 (c 1))),rx 0 [] [203,(ux (ux 201 200 11 (c (-1))) 200 9 150)],rx 15 [200,8,150] [201,2],leq (c 0) 200,leq 200 (.nat 8),fb (.cmp .neq (gx 201 200 9) (c 5)),leq 8 (c 64)],rx 15 [202,8,150] [203,2]),
([eql 204 (wx (.add 200 (c 1))),rx 0 [] [205,(ux 201 200 11 (c (-1)))],rx 15 [200,8,150] [201,2],leq (c 0) 200,fb (nx (.cmp .neq (gx 201 200 9) (c 5))),lss 200 (.nat 8),leq 8 (c 64)],rx 15 [204,8,150] [205,2])]:=va9
theorem a82:ab [([leq (c 0) 8,rx 15 [200,8,150] [201,2],leq 200 (.nat 8),fb (nx (lx 200 (.nat 8)))],rx 15 [8,8,150] [201,2])]:=kj
theorem Ob:ah2.ok Tryz.prog:=ao aS.nil HF (a5t a7z (a5t a80 (a5t a81 a82))) [3,4,5,2,2,0,0,0,0,6,12,7,8,9,13,10,11,14] (by kernel_rfl)
def vn:Nat→IE:=fun _=>c 0
def YF:cj:=fun f r b=>
 bif Nat.beq f 199&&Nat.beq r 5 then some {items:=fun _=>[],inv:=[],mes:=vn}
 else bif Nat.beq f 123&&Nat.beq r 2 then some {items:=fun _=>[],inv:=[],mes:=vn}
 else bif Nat.beq f 169&&Nat.beq r 5 then some {items:=fun b=>[.ci (eu b 9) 0,.ci (eu b 10) 0],inv:=[.be fun n=> .cmp .leq (c (-1)) (v n),.be fun n=> .cmp .leq (v n) (c 31)],mes:=vn}
 else bif Nat.beq f 169&&Nat.beq r 12 then some {items:=fun _=>[],inv:=[],mes:=vn}
 else none
theorem xF:ab [([],leq (.mn (.mn (.mx 3 (c 1)) (c 8)) (wx (.add (.mn (.mx 1 (c 0)) (c 8)) (c 1)))) (c 100)),
([],leq (c 0) (.mx (wx (.sub (.mn (.mx 1 (c 0)) (c 8)) (c 1))) (c 0))),
([],leq (c (-1)) (.mn (.mn (.mx 3 (c 1)) (c 8)) (wx (.add (.mn (.mx 1 (c 0)) (c 8)) (c 1))))),
([],leq (c 0) (.mx 3 (c 1))),
([leq (.mx (wx (.sub (.mn (.mx 1 (c 0)) (c 8)) (c 1))) (c 0)) 15],leq (c 0) 15),
([leq 15 (.mn (.mn (.mx 3 (c 1)) (c 8)) (wx (.add (.mn (.mx 1 (c 0)) (c 8)) (c 1))))],leq 15 (.mx 3 (c 1))),
([leq 15 (.mn (.mn (.mx 3 (c 1)) (c 8)) (wx (.add (.mn (.mx 1 (c 0)) (c 8)) (c 1))))],leq 15 (c 8))]:=dS
theorem xG:Pd.ok Tryz.prog:=m6 aS.nil YF xF [3,4,5,0,6,0,7,8,9] (by kernel_rfl)
theorem uw:ab [([],rx 11 [(c (-1)),2,3] [])]:=qR
theorem uy:HE.ok Tryz.prog:=m6 aS.nil YF uw [2,2,2,2,2,3,2] (by kernel_rfl)
theorem uz:ab [([fb (ix (.cmp .geq 2 (c 0)) (lx 2 (.nat 0)) (.lit false))],leq (c 0) 2),
([fb (ix (.cmp .geq 2 (c 0)) (lx 2 (.nat 0)) (.lit false))],lss (.nat 2) (.nat 0))]:=s8
theorem uA:ab [([fb (ix (.cmp .geq 2 (c 0)) (lx 2 (.nat 0)) (.lit false))],lss 2 (.nat 0)),
([eql 37 (c (-1))],leq (c (-1)) 37),
([eql 37 (c (-1))],leq 37 (c 31)),
([eql 41 40,leq (c 0) 40],leq (c (-1)) 41),
([eql 41 40,leq 40 (c 31)],leq 41 (c 31)),
([eql 44 37,leq (c (-1)) 37],leq (c (-1)) 44),
([eql 44 37,leq 37 (c 31)],leq 44 (c 31)),
([leq (c 0) 5039],leq (c (-1)) 5039)]:=dS
theorem uB:HC.ok Tryz.prog:=m6 (.cons D2 .nil) YF (a5t uz uA) [3,5,4,6,7,8,9,10,11,0,0,2,2,0,0,12,2] (by kernel_rfl)
end Go.Proofs.YteelgjcnkhmigaaGreatDoor.K
namespace Go.Proofs.YteelgjcnkhmigaaGreatDoor.K
open Go.RowKit Go.Lib Go.Proofs.YteelgjcnkhmigaaGreatDoor.E
theorem HY(w:World)(ty:TypeId)(b o c:Nat)
 (hc:∀j,j<2→(w.cell? ⟨b,o+j,none⟩).isSome=true) (hf:∀j,j<2→w.frozen? ⟨b,o+j,none⟩=false):
 (Builtin.clear_ #[81] ty #[.slice (some ⟨b,o,none⟩) 1 c]).run Tryz.prog w=.ok (.tuple #[]) (w.setCells b o [.int .i64 0,.int .i64 0]):=by
 have hz:(zeroValue 153).run Tryz.prog w=.ok (.agg #[.int .i64 0,.int .i64 0]) w:=by kernel_rfl
 have hzc:(Builtin.zeroCells (Value.agg #[.int .i64 0,.int .i64 0]).cells 1).toList=[.int .i64 0,.int .i64 0]:=by kernel_rfl
 have hst:=run_storeCells_cells (P:=Tryz.prog) b o [.int .i64 0,.int .i64 0] 0 w (by simpa using hc) (by simpa using hf) (by intro v hv';simp at hv';rw[hv'];rfl)
 simp only[Nat.add_zero]at hst
 simp[Builtin.clear_,run_underlying Tryz.underlying81,hz,hzc,hst]
set_option maxHeartbeats 4000000 in
set_option maxRecDepth 1000000 in
theorem D5(w:World)(k off n cap i:Nat)(cs:Array Value)(hcs:w.heap[k]? =some (.cells cs 153 (0,0)))(hsz:off+cap*2≤cs.size)(hn:n≤cap)(hi:i<n)(hm:n≤1000000)
 (news:List Value) (hl:news.length=(n-(i+1))*2) (hnw:∀t u,news[t]? =some u→cs[off+(i+1)*2+t]? =some u) (h1:∀u∈news,u.oneCell'=true):
 Calls Tryz.prog 111 #[.slice (some ⟨k,off,none⟩) n cap,.int .i64 i,.int .i64 (i+1)] w fun e w'=>e=.returned (.slice (some ⟨k,off,none⟩) (n-1) cap)∧
  w'=((w.drew.setCells k (off+i*2) news).setCells k (off+(n-1)*2) [.int .i64 0,.int .i64 0]):=by
 obtain⟨A,hA,hsrc⟩:∃A:Addr,(if cap=i+1 then some (⟨k,off,none⟩:Addr)else some ⟨k,off+(i+1)*2,none⟩)=some A∧Hid (∀t u,news[t]? =some u→w.drew.cell? (A.add t)=some u):=by
  by_cases h:cap=i+1
  ·refine⟨⟨k,off,none⟩,by simp[h],fun t u hu=>?_⟩
   have h0:news.length=0:=by rw[hl];omega
   rw[List.length_eq_zero_iff.1 h0]at hu
   simp at hu
  ·refine⟨⟨k,off+(i+1)*2,none⟩,by simp[h],fun t u hu=>?_⟩
   rw[ba]
   show w.cell? _=_
   simp only[World.cell?,hcs,Option.isSome_none,Bool.false_eq_true,if_false]
   exact hnw t u hu
 have s2:Hid (∀u∈news,u.oneCell'=true):=h1
 have s3:Hid (∀t,t<news.length→(w.drew.cell? ⟨k,off+i*2+t,none⟩).isSome=true∧w.drew.frozen? ⟨k,off+i*2+t,none⟩=false):=by
  intro t ht
  rw[hl]at ht
  have hh:w.drew.heap[k]? =some (.cells cs 153 (0,0)):=hcs
  refine⟨?_,by simp[World.frozen?,hh]⟩
  simp only[World.cell?,hh,Option.isSome_none,Bool.false_eq_true,if_false]
  rw[Array.getElem?_eq_getElem (by omega)];rfl
 obtain⟨W1,hW1⟩:∃W1,W1=w.drew.setCells k (off+i*2) news:=⟨_,rfl⟩
 have hW1':W1.heap[k]? =some (.cells (cA cs (off+i*2) news) 153 (0,0)):=by
  rw[hW1,dg news _ w.drew cs hcs]
  exact bG _ _ _ (aw (w:=w.drew) hcs)
 have hcl:∀ty,(Builtin.clear_ #[81] ty #[.slice (some ⟨k,off+(n-1)*2,none⟩) (n-(n-1)) (cap-(n-1))]).run Tryz.prog W1=.ok (.tuple #[]) (W1.setCells k (off+(n-1)*2) [.int .i64 0,.int .i64 0]):=by
  intro ty
  rw[show n-(n-1)=1 by omega]
  refine HY W1 ty k _ _ (fun j hj=>?_) (fun j hj=>by simp[World.frozen?,hW1'])
  simp only[World.cell?,hW1',Option.isSome_none,Bool.false_eq_true,if_false]
  rw[Array.getElem?_eq_getElem (by rw[cC];omega)];rfl
 have hW:Hid (W1=w.drew.setCells k (off+i*2) news):=hW1
 have hic:i≤cap:=by omega
 have hb:(0:Int)≤(i:Int)+1∧(i:Int)+1≤(n:Int):=by omega
 have hmix:=qP
 have hi0:Tryz.prog.info? 153=some Tryz.t153:=by kernel_rfl
 have hz0:Tryz.t153.size=2:=by kernel_rfl
 have hrm:i+(n-(i+1))≤cap:=by omega
 rw[←hW1]
 clear hW1 hW1' hnw h1 hcs
 go_enter Tryz.func111,Tryz.ntmps111
 go_wp2_with fail
 go_region_law_o (refine step_append_room rfl (.tmp 22) (.tmp 25) 81 rfl 153 Tryz.t153 2 Tryz.underlying81 hi0 hz0 k off i cap (by simp[Act.eval,Act.put]) A (n-(i+1)) (cap-(i+1)) news (by simp[Act.eval,Act.put]) hl hsrc.out s2.out hrm s3.out ?_;rw[←hW.out])
 have e1:i+(n-(i+1))=n-1:=by omega
 have e2:¬cap=n-1:=by omega
 have hb2:(0:Int)≤((n-1:Nat):Int)∧((n-1:Nat):Int)≤(n:Int):=by omega
 have e3:n≤cap:=hn
 rw[e1]
 go_wp2
 go_ret
 exact⟨rfl,rfl⟩
def ahm(σ:ap)(x:Value)(m:Int)(L:LL):ap:=
 {i:=fun v=>if v=11 then m else σ.i v,b:=fun v=>if v=11 then true else σ.b v,k:=fun v=>if v=11 then σ.k 0 else σ.k v,f:=fun v=>if v=11 then σ.f 0 else σ.f v,l:=fun v=>if v=11 then L else σ.l v,x:=fun v=>if v=11 then x else σ.x v,y:=σ.y}
theorem HZ:ov.ok Tryz.prog:=by
 intro C σ w hpre hd
 have p1:=aa.1 hpre
 have p2:=aa.1 p1.2
 have p3:=aa.1 p2.2
 have p4:=aa.1 p3.2
 have h5:=bD.1 p1.1
 have h50:=fC.1 p2.1
 have h6:=tn.1 p3.1
 have h0:=bD.1 p4.1
 simp only[v,c,IE.den]at h5 h50 h6 h0
 have hrow:=hd.rows 0 true _ (bT _ _ _)
 have hown:=hd.own 0 _ (bT _ _ _)
 simp only[am.holds,v,IE.den,LE.den,List.length_cons,List.length_nil,Nat.zero_add]at hrow
 cases hb:σ.b 0
 ·have:=(hrow.1 hb).1;omega
 obtain⟨cs,cap,hx,hlay,hsz,hcap,hel⟩:=hrow.2 hb
 have hcs:=hlay.get (by decide)
 have hsz:σ.f 0 0+cap*2≤cs.size:=by rcases hsz with h|h;exact absurd h (by decide);exact h
 obtain⟨n,hn⟩:∃n:Nat,σ.i 0=n:=⟨(σ.i 0).toNat,by omega⟩
 obtain⟨i,hi⟩:∃i:Nat,σ.i 5=i:=⟨(σ.i 5).toNat,by omega⟩
 rw[hn]at hx hcap hel h50 h0
 rw[hi]at h5 h50 h6
 simp only[Int.toNat_natCast]at hx hcap hel
 have hel':∀r j:Nat,r<n→j<2→cs[σ.f 0 0+r*2+j]? =some (.int .i64 (σ.l 0 r j)):=by
  intro r j hr hj
  match j,hj with
  |0,_=>exact hel r hr 0 ki rfl
  |1,_=>exact hel r hr 1 ki rfl
 have hcell:∀t,t<(n-(i+1))*2→cs[σ.f 0 0+(i+1)*2+t]? =some (.int .i64 (σ.l 0 (i+1+t/2) (t % 2))):=by
  intro t ht
  rw[←hel' (i+1+t/2) (t % 2) (by omega) (by omega)]
  congr 1;omega
 have hnl:((cs.toList.drop (σ.f 0 0+(i+1)*2)).take ((n-(i+1))*2)).length=(n-(i+1))*2:=by
  rw[List.length_take,List.length_drop,Array.length_toList];omega
 have hng:∀t,t<(n-(i+1))*2→((cs.toList.drop (σ.f 0 0+(i+1)*2)).take ((n-(i+1))*2))[t]? =some (.int .i64 (σ.l 0 (i+1+t/2) (t % 2))):=by
  intro t ht
  rw[List.getElem?_take_of_lt ht,List.getElem?_drop,Array.getElem?_toList]
  exact hcell t ht
 generalize (cs.toList.drop (σ.f 0 0+(i+1)*2)).take ((n-(i+1))*2)=news at hnl hng
 have hw:=D5 w (σ.k 0) (σ.f 0 0) n cap i cs hcs hsz hcap (by omega) (by omega) news hnl
  (fun t u hu=>by
    have ht:t<(n-(i+1))*2:=by rw[←hnl];exact(List.getElem?_eq_some_iff.1 hu).1
    rw[←hu,hng t ht];exact hcell t ht)
  (fun u hu=>by
    obtain⟨t,ht,rfl⟩:=List.mem_iff_getElem.1 hu
    have:=hng t (by omega)
    rw[List.getElem?_eq_getElem ht]at this
    rw[Option.some.inj this];rfl)
 have hargs:(ov.args.map (SV.den σ)).toArray=#[.slice (some ⟨σ.k 0,σ.f 0 0,none⟩) n cap,.int .i64 i,.int .i64 (i+1)]:=by
  simp only[ov,List.map_cons,List.map_nil,SV.den,iv,v,IE.den,hx,hi,h6]
 rw[hargs]
 refine Calls.mono hw fun e w' ⟨he,hw'⟩=>?_
 have hdr:w.drew.heap[σ.k 0]? =some (.cells cs 153 (0,0)):=hcs
 rw[dg news _ w.drew cs hdr,dg _ _ _ _ (bG _ _ _ (aw (w:=w.drew) hdr)),pZ]at hw'
 have hget:∀a j:Nat,a<n-1→j<2→(cA (cA cs (σ.f 0 0+i*2) news) (σ.f 0 0+(n-1)*2) [.int .i64 0,.int .i64 0])[σ.f 0 0+a*2+j]? =some (.int .i64 (if(a:Int)<i then σ.l 0 a j else σ.l 0 (a+1) j)):=by
  intro a j ha hj
  rw[df _ _ _ (by rw[cC];simp only[List.length_cons,List.length_nil];omega),if_neg (by omega),df _ _ _ (by rw[hnl];omega)]
  by_cases hai:a<i
  ·rw[if_neg (by omega),if_pos (by omega)];exact hel' a j (by omega) hj
  ·rw[if_pos (by rw[hnl];omega),if_neg (by omega),show σ.f 0 0+a*2+j-(σ.f 0 0+i*2)=(a-i)*2+j by omega,hng _ (by omega)]
   rw[show i+1+((a-i)*2+j)/2=a+1 by omega,show((a-i)*2+j) % 2=j by omega]
 have hss:(cA (cA cs (σ.f 0 0+i*2) news) (σ.f 0 0+(n-1)*2) [.int .i64 0,.int .i64 0]).size=cs.size:=by rw[cC,cC]
 generalize cA (cA cs (σ.f 0 0+i*2) news) (σ.f 0 0+(n-1)*2) [.int .i64 0,.int .i64 0]=cs2 at hget hss hw'
 have hk0:¬C.keep (σ.k 0):=hown (σ.k 0) ⟨hb,rfl⟩
 refine⟨ahm σ (.slice (some ⟨σ.k 0,σ.f 0 0,none⟩) (n-1) cap) ((n-1:Nat):Int) (fun a j=>if(a:Int)<i then σ.l 0 a j else σ.l 0 (a+1) j),?_,?_⟩
 ·constructor<;>intro v hv<;>try rfl
  all_goals
   have hv':v<10∨15≤v:=hv
   exact if_neg (by omega)
 ·refine⟨aa.2 ⟨?_,aa.2 ⟨?_,aj _⟩⟩,aj _,?_,?_⟩
  ·refine tn.2 ?_
   show((n-1:Nat):Int)=σ.i 0-1
   omega
  ·refine tz.2 ?_
   show∀a:Nat,(a:Int)<((n-1:Nat):Int)→∀j,(if(a:Int)<i then σ.l 0 a j else σ.l 0 (a+1) j)=if(a:Int)<σ.i 5 then σ.l 0 a j else σ.l 0 (a+1) j
   intro a _ j
   rw[hi]
  ·rw[he];rfl
  ·have hl:∀id o r,E.ai (.h id) ([(aO.h 0,aY.gone),bx 11 11]++ov.H0)=some (.row o r)→id=11∧o=false∧r=.lst 153 [ki,ki] (v 11) (.var 11):=by
    intro id o r h
    simp only[List.cons_append,List.nil_append,bx,ov,bJ,ak]at h
    split at h
    ·cases h
    ·rename_i h0
     split at h
     ·rename_i h1
      obtain⟨rfl,rfl⟩:=aY.row.inj (Option.some.inj h)
      exact⟨(aO.h.inj h1).symm,rfl,rfl⟩
     ·cases h
   have hw2:w'.heap[σ.k 0]? =some (.cells cs2 153 (0,0)):=by rw[hw'];exact bG _ _ _ (aw (w:=w.drew) hdr)
   refine⟨fun id o r h=>?_,fun id r h=>?_,fun id r h b hb'=>?_,fun i' j r s h1 h2=>?_,fun i' j r s hij h1 h2=>?_,?_⟩
   ·obtain⟨rfl,rfl,rfl⟩:=hl id o r h
    simp only[am.holds,List.length_cons,List.length_nil,Nat.zero_add]
    refine⟨fun hf=>(by cases hf),fun _=>⟨cs2,cap,rfl,.inl hw2,.inr ?_,?_,fun a ha j k hk=>?_⟩⟩
    ·show σ.f 0 0+cap*2≤cs2.size
     rw[hss];exact hsz
    ·show((n-1:Nat):Int).toNat≤cap
     omega
    ·have ha':a<n-1:=by
      have:a<((n-1:Nat):Int).toNat:=ha
      omega
     have:=hget a j ha' ((List.getElem?_eq_some_iff.1 hk).1)
     have hki:k=ki:=by
      match j,hk with
      |0,hk=>exact(Option.some.inj hk).symm
      |1,hk=>exact(Option.some.inj hk).symm
     subst hki
     exact this
   ·obtain⟨_,h2,_⟩:=hl id _ r h;cases h2
   ·obtain⟨rfl,_,rfl⟩:=hl id _ r h
    obtain⟨_,rfl⟩:=hb'
    exact .inr hk0
   ·obtain⟨_,g,_⟩:=hl j _ s h2;cases g
   ·obtain⟨_,g,_⟩:=hl i' _ r h1;cases g
   ·rw[hw']
    refine⟨hd.fr.os,hd.fr.tape,hd.fr.output,?_,fun b hb'=>⟨(hd.fr.keep b hb').1,?_⟩,hd.fr.shk⟩
    ·rw[lC];exact hd.fr.size
    ·rw[er _ _ _ (fun e=>by subst e;exact hk0 hb')];exact(hd.fr.keep b hb').2
end Go.Proofs.YteelgjcnkhmigaaGreatDoor.K
namespace Go.Proofs.YteelgjcnkhmigaaGreatDoor.K
open Go.RowKit Go.Proofs.YteelgjcnkhmigaaGreatDoor.E
theorem YY:ab [([fb (nx (ix (lx 2 (c 0)) (.lit true) (.cmp .geq 2 (c 64))))],fb (.cmp .geq 2 (c 0)))]:=dS
theorem YZ:ab [([leq (c 0) 1,lss 1 (c 18446744073709551616)],rx 19 [(.bits .or .u64 1 (.ite (ix (lx 2 (c 0)) (.lit true) (.cmp .geq 2 (c 64))) (c 0) (.shl .u64 (c 1) 2))),1,2] [])]:=by
 repeat' (first|exact .nil|refine au ?_ ?_)
 all_goals(
  intro ρ;(intro h;simp only[vS,IE.den,BE.den,LE.den]at h⊢;revert h;(try simp only[and_imp]);intros);(simp only[vR,ae,eh]at*)
  refine⟨ew _ _ _,fun k hk=>?_⟩
  split at hk
  ·rw[Yp (by assumption) (by assumption) (by omega) (by omega),O9]at hk;simp at hk;exact .inl hk
  ·have hs:=nQ (y:=ρ.i 2) (by omega) (by omega)
   rw[Yp (by assumption) (by assumption) hs.1 hs.2,xy (by omega) (by omega)]at hk;simp at hk;rcases hk with hk|hk
   ·exact .inl hk
   ·exact .inr (by omega))
theorem D6:aeu.ok Tryz.prog:=ao aS.nil lZ (a5t YY YZ) [3,4] (by kernel_rfl)
theorem D7:ab [([fb (nx (ix (lx 2 (c 0)) (.lit true) (.cmp .geq 2 (c 64))))],fb (.cmp .geq 2 (c 0)))]:=dS
theorem D8:ab [([leq (c 0) 1,lss 1 (c 18446744073709551616)],rx 20 [(.bits .andNot .u64 1 (.ite (ix (lx 2 (c 0)) (.lit true) (.cmp .geq 2 (c 64))) (c 0) (.shl .u64 (c 1) 2))),1] [])]:=by
 repeat' (first|exact .nil|refine au ?_ ?_)
 all_goals(
  intro ρ;(intro h;simp only[vS,IE.den,BE.den,LE.den]at h⊢;revert h;(try simp only[and_imp]);intros);(simp only[vR,ae,eh]at*);exact⟨ew _ _ _,fun k hk=>Pr (by assumption) (by assumption) k hk⟩)
theorem D9:XV.ok Tryz.prog:=ao aS.nil lZ (a5t D7 D8) [3,4] (by kernel_rfl)
theorem a8h:ab [([fb (nx (ix (lx 2 (c 0)) (.lit true) (.cmp .geq 2 (c 64))))],fb (.cmp .geq 2 (c 0)))]:=dS
theorem a8i:ab [([leq (c 0) 1,lss 1 (c 18446744073709551616)],.imp (.cmp .neq (.bits .and .u64 1 (.ite (ix (lx 2 (c 0)) (.lit true) (.cmp .geq 2 (c 64))) (c 0) (.shl .u64 (c 1) 2))) (c 0)) (rx 21 [1,2] []))]:=by
 repeat' (first|exact .nil|refine au ?_ ?_)
 all_goals(
  intro ρ;(intro h;simp only[vS,IE.den,BE.den,LE.den]at h⊢;revert h;(try simp only[and_imp]);intros);(simp only[vR,ae,eh]at*);rename_i hk;split at hk
  ·exact absurd (by rw[HQ (by assumption) (by assumption)]) hk
  ·exact⟨by omega,by omega,a7o (by assumption) (by assumption) (by omega) (by omega) hk⟩)
theorem Of:ah3.ok Tryz.prog:=ao aS.nil lZ (a5t a8h a8i) [3,4] (by kernel_rfl)
theorem PH:ab [([.imp (nx (ex 1 (c 0))) (rx 21 [1,31] [])],rx 22 [(.ite (ex 1 (c 0)) (c (-1)) 31),1] [])]:=qR
theorem PI:acd.ok Tryz.prog:=ao (.cons YO .nil) lZ PH [3] (by kernel_rfl)
theorem xH:ab [([eql 31 1,leq (c 0) 1,lss 1 (c 18446744073709551616)],rx 20 [31,1] []),
([rx 20 [31,1] []],leq (c 0) 31),
([rx 20 [31,1] []],lss 31 (c 18446744073709551616)),
([eql 35 33,rx 20 [33,31] [],rx 20 [31,1] []],rx 20 [35,1] []),
([rx 20 [31,1] []],leq (c 0) 31),
([rx 20 [31,1] []],lss 31 (c 18446744073709551616)),
([.imp (.cmp .neq 5031 (c (-1))) (rx 22 [5031,31] []),.imp (.cmp .neq 5031 (c (-1))) (rx 20 [31,1] []),.imp (nx (.cmp .neq 5031 (c (-1)))) (rx 22 [5033,1] [])],rx 22 [(.ite (.cmp .neq 5031 (c (-1))) 5031 5033),1] [])]:=qR
theorem xI:ab [([eql 30 (c 0)],leq (c 0) 30),
([eql 34 (wx (.add 30 (c 1))),lss 30 (wx (.add 2 (c 1)))],lss (.nat (.sub (wx (.add 2 (c 1))) 34)) (.nat (.sub (wx (.add 2 (c 1))) 30))),
([eql 34 (wx (.add 30 (c 1))),leq (c 0) 30,lss 30 (wx (.add 2 (c 1)))],leq (c 0) 34)]:=dS
theorem xJ:Pe.ok Tryz.prog:=ao (.cons D9 (.cons PI .nil)) lZ (a5t xH xI) [3,10,4,5,11,6,12,4,5,9] (by kernel_rfl)
theorem xK:ab [([rx 22 [38,1] []],.imp (nx 4) (rx 22 [(.ite (lx 38 (c 0)) (c (-1)) 38),1] [])),
([rx 22 [44,1] []],.imp (nx 4) (rx 22 [(.ite (lx 44 (c 0)) (c (-1)) 44),1] [])),
([.imp 35 (rx 21 [1,2] []),fb 35],.imp (nx 4) (rx 22 [2,1] []))]:=qR
theorem xL:ab [([fb 4],.imp (nx 4) (rx 22 [2,1] []))]:=s8
theorem xM:Pf.ok Tryz.prog:=ao (.cons xJ (.cons Of .nil)) lZ (a5t xK xL) [3,6,4,5] (by kernel_rfl)
def ev:SV:=.agg [iv 151,iv 152,iv 153]
def qQ:aO×aY:=bJ 91 [.ptr 2] 8 8
def base:List F:=fN++[gN,iU 2 (v 147) (v 115),XT 2 (v 147) (v 115)]
def ly(l:Nat):List F:=[iU l (v 147) (v 115),XT l (v 147) (v 115),a75 2 l]
def ace:bg:={f:=49,M:=200,args:=[W,ev],H0:=[wH [],aT 2,qQ],pre:=base,N:=203,t:=.lf ⟨ly 202,[],iv 201,[aT 202]⟩}
def acf:bg:={f:=50,M:=200,args:=[W,ev],H0:=[wH [],aT 2,qQ],pre:=base,N:=203,t:=.lf ⟨ly 202,[],iv 201,[aT 202]⟩}
def aew:bg:={f:=48,M:=200,args:=[W,ev],H0:=[wH [],aT 2,qQ],pre:=base,N:=203,t:=.lf ⟨ly 202,[],iv 201,[aT 202]⟩}
def a76:bg:={f:=46,M:=200,args:=[W,ev],H0:=[wH [],cI 14 14],pre:=bc 14,N:=220,t:=.lf ⟨[eql (v 214) (v 14)],[],iv 201,[wH [(45,iw 202),(46,.lst 214)],cI 214 214]⟩}
def a77:bg:={f:=47,M:=200,args:=[W,ev],H0:=[wH [],cI 14 14],pre:=bc 14,N:=220,t:=.lf ⟨[eql (v 214) (v 14)],[],iv 201,[wH [(45,iw 202),(46,.lst 214)],cI 214 214]⟩}
def acg:bg:={f:=105,M:=200,args:=[W],H0:=[wH [],aT 2,qQ],pre:=fN,N:=202,t:=.lf ⟨[.rel XJ [v 8,v 201] [.var 2]]++CU 201,[],iq 201,[]⟩}
def aex:bg:={f:=51,M:=200,args:=[W,ev],H0:=[wH [],aT 2,qQ],pre:=base,N:=204,t:=.lf ⟨[],[],iv 201,[wH [(43,iv 202),(44,iv 203)]]⟩}
def XW(i:Nat):SV:=.ptr (.fm 2 (v i) 0)
def ach:bg:={f:=37,M:=200,args:=[W,XW 150],H0:=[wH [],aT 2,bJ 56 [ki,ki,ki,ki,ki,ki,ki] 5 5],pre:=fN++[gN,iU 2 (v 147) (v 115),leq (c 0) (v 150),lss (v 150) (v 8)],N:=202,t:=.lf ⟨[.imp (.var 201) (.be (.cmp .neq (v 147) (c 0))),.imp (.var 201) (.imp (.cmp .neq (.rem (.get (.var 2) (v 150) 0) (c 8)) (c 0)) (leq (v 111) (.get (.var 2) (v 150) 5)))],[],.b (.var 201),[]⟩}
def HG(b:Br)(t:Nat):Nat:=match fV b t with|.fn (.func n) _ _=>n|_=>0
def a78(b:Br)(t:Nat):Nat:=bif Nat.beq (HG b t) 158 then XJ else aef
def dW:cj:=fun f r b=>
 bif Nat.beq f 121&&Nat.beq r 3 then some {items:=fun _=>[.ri 13,.ri 5],inv:=.rel (a78 b 1) (fun n=>[v n,v (n+1)]) (fun _=>[.var 2])::co (bu b 12),mes:=fun n=> .sub (bu b 12) (v n)}
 else bif Nat.beq f 125&&Nat.beq r 1 then some {items:=fun _=>[.ri 11,.fm 2],inv:=.rel CR (fun n=>[v n,v 8,v 150]) (fun n=>[.var (n+1),.var 2])::co (bu b 10),mes:=fun n=> .sub (bu b 10) (v n)}
 else bif Nat.beq f 165&&Nat.beq r 2 then(bif Nat.beq (HG b 1) 119 then HF f r b
  else bif Nat.beq (HG b 1) 120 then some {items:=fun _=>[.ri 8],inv:=.rel XL (fun n=>[v n]) (fun _=>[.var 2])::co (bu b 7),mes:=fun n=> .sub (bu b 7) (v n)}
  else some {items:=fun _=>[.ri 8],inv:=co (bu b 7),mes:=fun n=> .sub (bu b 7) (v n)})
 else HF f r b
def aci:bg:={f:=125,M:=200,args:=[W,iv 150],H0:=[wH [],aT 2,qQ],pre:=fN,N:=203,t:=.lf ⟨[.rel CR [v 8,v 8,v 150] [.var 202,.var 2]],[],.tup [],[aT 202]⟩}
theorem vr{n F S W Fu nb home mode at_ i:Int}{l l':LL}(hp:eU [n,n,i] [l',l])(hi:inv [n,F,S,W,Fu,nb,home,mode,at_] [l])(hs:Hv [n] [l])(hj:cV [n] [l])(hm:mode=2)(h0:0≤i)(hn:i<n):
 inv [n,F,S,W,Fu,nb,home,mode,at_] [ah l' i 9 4]:=by
 simp only[eU,inv,Hv,cV]at*
 refine⟨fun a ha=>?_,fun a b ha hb h1 h2=>?_⟩
 ·have p:=hp a ha
  have q:=hi.1 a ha
  have s:=hs a ha
  have j:=hj a ha
  clear hp hi hs hj
  by_cases hai:a=i.toNat
  ·subst hai;(try simp only[ae,aC,fR,reduceIte,Nat.reduceEqDiff,and_true,and_false,true_and,false_and,if_false,if_true,true_or,or_true,false_or,or_false]at*);grind
  ·simp only[aC,ae,hai,false_and,if_false]at*;grind
 ·have p:=hp a ha
  have s:=hs a ha
  have p':=hp b hb
  have s':=hs b hb
  have hai:a=i.toNat:=by
   by_cases hai:a=i.toNat
   ·exact hai
   ·simp only[ae,hai,false_and,if_false]at h1
    have:(a:Int)≠i:=by omega
    grind
  have hbi:b=i.toNat:=by
   by_cases hbi:b=i.toNat
   ·exact hbi
   ·simp only[ae,hbi,false_and,if_false]at h2
    have:(b:Int)≠i:=by omega
    grind
  omega
theorem tS{n F S W Fu nb home mode at_ i:Int}{l l1 l':LL}(hp:eU [n,n,-1] [l',l1])(ht:tB [n,i,home] [l1,l])(hi:inv [n,F,S,W,Fu,nb,home,mode,at_] [l])(hw:fM [n,mode,at_] [l])(hj:cV [n] [l])(hm:mode=2)(hat:at_=2)
 (hh:0≤home∧home≤31) (h0:0≤i) (hn:i<n) (h9:l i.toNat 9=1) (h10:l i.toNat 10=1):
 inv [n,F,S,W,Fu,nb,home,mode,at_] [ah l' i 9 2]∧fM [n,mode,at_] [ah l' i 9 2]:=by
 simp only[eU,tB,inv,cV,fM]at*
 have no2:∀a:Nat,(a:Int)<n→a≠i.toNat→l' a 9≠2∧l' a 9≠4:=by
  intro a ha hai
  have p:=hp a ha
  have t:=ht a ha
  have q:=hi.1 a ha
  have j:=hj a ha
  simp only[aC]at q
  clear hp ht hi hw hj
  grind
 refine⟨⟨fun a ha=>?_,fun a b ha hb h1 h2=>?_⟩,fun a ha=>?_⟩
 ·have p:=hp a ha
  have t:=ht a ha
  have q:=hi.1 a ha
  have j:=hj a ha
  clear hp ht hi hw hj no2
  by_cases hai:a=i.toNat
  ·subst hai;simp only[aC,ae]at*;grind
  ·have hne:(a:Int)≠i:=by omega
   simp only[aC,ae,hai,false_and,if_false]at*
   grind
 ·have x:=no2 a ha
  have y:=no2 b hb
  clear hp ht hi hw hj no2
  by_cases hai:a=i.toNat<;>by_cases hbi:b=i.toNat
  ·omega
  ·simp only[ae,hbi,false_and,if_false]at h2;grind
  ·simp only[ae,hai,false_and,if_false]at h1;grind
  ·simp only[ae,hai,false_and,if_false]at h1;grind
 ·have p:=hp a ha
  have t:=ht a ha
  have q:=hi.1 a ha
  have u:=hw a ha
  have j:=hj a ha
  clear hp ht hi hw hj no2
  by_cases hai:a=i.toNat
  ·subst hai;simp only[aC,fR,ae]at*;grind
  ·have hne:(a:Int)≠i:=by omega
   simp only[aC,fR,ae,hai,false_and,if_false]at*
   grind
theorem I0{n mode at_ i:Int}{l l':LL}(hp:eU [n,n,i] [l',l])(hw:fM [n,mode,at_] [l])(h0:0≤i)(h9:l i.toNat 9=3∨l i.toNat 9=4)(h10:l i.toNat 10=3∨l i.toNat 10=4):fM [n,mode,at_] [ah l' i 9 4]:=by
 simp only[eU,fM]at*
 intro a ha
 have p:=hp a ha
 have q:=hw a ha
 clear hp hw
 by_cases hai:a=i.toNat
 ·subst hai;simp only[fR,ae]at*;grind
 ·have hne:(a:Int)≠i:=by omega
  simp only[fR,ae,hai,false_and,if_false]at*
  grind
theorem PJ{n i:Int}{l l':LL}(hp:eU [n,n,i] [l',l]):BH [n] [l,ah l' i 9 4]:=by
 simp only[eU,BH]at*
 intro a ha
 have p:=hp a ha
 clear hp
 simp only[ae];grind
theorem Z0{n F S W Fu nb home mode at_ i f:Int}{l l1:LL}(ht:tB [n,i,f] [l1,l])(hi:inv [n,F,S,W,Fu,nb,home,mode,at_] [l])(hf:0≤f∧f≤31)(h0:0≤i)(h4:l i.toNat 9=4):
 inv [n,F,S,W,Fu,nb,home,mode,at_] [l1]:=by
 simp only[tB,inv]at*
 refine⟨fun a ha=>?_,fun a b ha hb h1 h2=>?_⟩
 ·have t:=ht a ha
  have q:=hi.1 a ha
  clear ht hi
  have hx:(a:Int)=i→l a 9=4:=by
   intro e
   have:a=i.toNat:=by omega
   rw[this];exact h4
  simp only[aC]at*;grind
 ·have t:=ht a ha
  have t':=ht b hb
  exact hi.2 a b ha hb (by grind) (by grind)
theorem PK{n mode at_ i f:Int}{l l1:LL}(ht:tB [n,i,f] [l1,l])(hw:fM [n,mode,at_] [l]):fM [n,mode,at_] [l1]:=by
 simp only[tB,fM]at*
 intro a ha
 have t:=ht a ha
 have q:=hw a ha
 clear ht hw
 simp only[fR]at*;grind
theorem Z1{n i f:Int}{l l0 l1:LL}(ht:tB [n,i,f] [l1,l])(hk:BH [n] [l0,l]):BH [n] [l0,l1]:=by
 simp only[tB,BH]at*
 intro a ha
 have t:=ht a ha
 have q:=hk a ha
 clear ht hk
 grind
theorem Z2{n F S W Fu nb home mode at_:Int}{l l1:LL}(ht:gL [n] [l1,l])(hi:inv [n,F,S,W,Fu,nb,home,mode,at_] [l]):inv [n,F,S,W,Fu,nb,home,mode,at_] [l1]:=by
 simp only[gL,inv]at*
 refine⟨fun a ha=>?_,fun a b ha hb h1 h2=>?_⟩
 ·have t:=ht a ha
  have q:=hi.1 a ha
  clear ht hi
  simp only[aC]at*;grind
 ·have t:=ht a ha
  have t':=ht b hb
  exact hi.2 a b ha hb (by grind) (by grind)
theorem PL{n mode at_:Int}{l l1:LL}(ht:gL [n] [l1,l])(hw:fM [n,mode,at_] [l]):fM [n,mode,at_] [l1]:=by
 simp only[gL,fM]at*
 intro a ha
 have t:=ht a ha
 have q:=hw a ha
 clear ht hw
 simp only[fR]at*;grind
theorem Z3{n:Int}{l l0 l1:LL}(ht:gL [n] [l1,l])(hk:BH [n] [l0,l]):BH [n] [l0,l1]:=by
 simp only[gL,BH]at*
 intro a ha
 have t:=ht a ha
 have q:=hk a ha
 clear ht hk
 grind
theorem Z4{m n i m':Int}{l l' l0:LL}(h:ft [m,n] [l])(hc:nN [i,m'] [l',l0])(hs:∀a j:Nat,(a:Int)<m→l0 a j=l a j)(hm:m'=m-1)(h0:0≤i)(hi:i<m):ft [m',n] [l']:=by
 simp only[ft,nN]at*
 obtain⟨h1,h2,h3,h4⟩:=h
 have e:∀a:Nat,(a:Int)<m'→l' a 0=l (if(a:Int)<i then a else a+1) 0:=by
  intro a ha
  rw[hc a ha 0]
  split
  ·exact hs _ _ (by omega)
  ·exact hs _ _ (by omega)
 refine⟨by omega,by omega,fun a ha=>?_,fun a b ha hb hab=>?_⟩
 ·rw[e a ha]
  exact h3 _ (by split<;>omega)
 ·rw[e a ha,e b hb]at hab
  have:=h4 _ _ (by split<;>omega) (by split<;>omega) hab
  split at this<;>split at this<;>omega
theorem Z5{cost p dir x l k:Int}(hd:dir= -1∨dir=1)(hp:0≤p)(hm:p.tmod 8≠0)(hl:0≤l∧l≤k∧k≤16)(hc:0≤cost∧cost≤100)
 (h:IntKind.i64.wrap (cost*IntKind.i64.wrap ((if dir=0∨p.tmod 8=0 then 0 else if dir<0 then p.tmod 8 else IntKind.i64.wrap (8-p.tmod 8))+IntKind.i64.wrap (k-l)))≤x):cost≤x:=by
 have h8:1≤p.tmod 8∧p.tmod 8≤7:=by
  rw[Int.tmod_eq_emod_of_nonneg hp]at hm⊢
  omega
 generalize p.tmod 8=q at*
 rw[cq (n:=k-l) (by omega),cq (n:=8-q) (by omega)]at h
 obtain⟨w,hw,h1⟩:∃w,w=(if dir=0∨q=0 then 0 else if dir<0 then q else 8-q)∧(1≤w∧w≤7):=⟨_,rfl,by split<;>(try split)<;>omega⟩
 rw[←hw,cq (n:=w+(k-l)) (by omega)]at h
 have h2:cost*1≤cost*(w+(k-l)):=Int.mul_le_mul_of_nonneg_left (by omega) hc.1
 have h3:cost*(w+(k-l))≤100*(w+(k-l)):=Int.mul_le_mul_of_nonneg_right hc.2 (by omega)
 rw[cq (by omega)]at h
 omega
theorem sb{n F S W Fu nb home mode mode' at_ p:Int}{l l0:LL}(ht:ot [n,n,p] [l,l0])(hi:inv [n,F,S,W,Fu,nb,home,mode,at_] [l0])(hp:p=0∨p=1)(hm:mode'=0↔p=0):inv [n,F,S,W,Fu,nb,home,mode',at_] [l]:=by
 simp only[ot,inv]at*
 refine⟨fun a ha=>?_,fun a b ha hb h1 h2=>?_⟩
 ·have t:=ht a ha
  have q:=hi.1 a ha
  clear ht hi
  simp only[aC]at*
  rcases hp with rfl|rfl<;>grind
 ·have t:=ht a ha
  have q:=hi.1 a ha
  clear ht hi
  exfalso
  simp only[aC]at q
  rcases hp with rfl|rfl<;>grind
theorem tT{n mode mode' at_ p:Int}{l l0:LL}(ht:ot [n,n,p] [l,l0])(hw:fM [n,mode,at_] [l0])(hp:p=1∧mode'≠0∨p=0∧at_≠2):fM [n,mode',at_] [l]:=by
 simp only[ot,fM]at*
 intro a ha
 have t:=ht a ha
 have q:=hw a ha
 clear ht hw
 simp only[fR]at*
 rcases hp with⟨rfl,h⟩|⟨rfl,h⟩<;>grind
theorem Da{n F S W Fu nb home mode at_ i:Int}{l l0:LL}(h:eV [n,i] [l,l0])(hi:inv [n,F,S,W,Fu,nb,home,mode,at_] [l0])(hF:F≤32)(h0:0≤i)(hn:i<n)
 (hc:IntKind.i64.wrap (IntKind.i64.wrap (l i.toNat 11*8)-l i.toNat 0)=0):l i.toNat 0=l i.toNat 11*8:=by
 simp only[eV,inv]at*
 have q:=h i.toNat (by omega)
 have r:=hi.1 i.toNat (by omega)
 clear h hi
 simp only[aC]at r
 obtain⟨q1,q2,q3⟩:=q
 have q4:=q2 (by omega)
 rw[cq (n:=l i.toNat 11*8) (by omega),cq (by omega)]at hc
 omega
theorem PM{n i i':Int}{l l0:LL}(h:eV [n,i] [l,l0])(h0:0≤i)(hn:i<n)(hi':i'=i+1)(hj:l i.toNat 11≠ -1)(hf:l i.toNat 12=0)(hp:l i.toNat 0=l i.toNat 11*8)(hv:l i.toNat 1=0)(hw:l i.toNat 3=l i.toNat 4)(h9:l i.toNat 9≠2):
 eV [n,i'] [ah (ah l i 11 (-1)) i 12 0,l0]:=by
 simp only[eV]at*
 intro a ha
 have q:=h a ha
 clear h
 simp only[ae]
 by_cases hai:a=i.toNat
 ·subst hai;simp;grind
 ·have:(a:Int)≠i:=by omega
  simp only[hai,false_and,if_false]
  grind
theorem PN{n i i':Int}{l l0:LL}(h:eV [n,i] [l,l0])(h0:0≤i)(hn:i<n)(hi':i'=i+1)(hj:l i.toNat 11≠ -1)(hf:l i.toNat 12=0)(hp:l i.toNat 0=l i.toNat 11*8)(hv:l i.toNat 1=0)(hw:l i.toNat 3=l i.toNat 4)(h9:l i.toNat 9=2):
 eV [n,i'] [ah (ah (ah l i 11 (-1)) i 9 3) i 12 0,l0]:=by
 simp only[eV]at*
 intro a ha
 have q:=h a ha
 clear h
 simp only[ae]
 by_cases hai:a=i.toNat
 ·subst hai;simp;grind
 ·have:(a:Int)≠i:=by omega
  simp only[hai,false_and,if_false]
  grind
theorem cz{n F S W Fu nb home mode at_ i i' cost power p v o x:Int}{A B L l0:LL}(hk:cW [n,i] [A,B])(hm:gV [n,i,S,cost,power] [B,l0])(hi:inv [n,F,S,W,Fu,nb,home,mode,at_] [B])(h0:0≤i)(hn:i<n)(hi':i'=i+1)(hS:1≤S)
 (hne:∀a:Nat,a≠i.toNat→∀j,L a j=A a j) (e0:L i.toNat 0=p) (e1:L i.toNat 1=v) (e3:L i.toNat 3=o) (e5:L i.toNat 5=x)
 (eo:L i.toNat 2=A i.toNat 2∧L i.toNat 4=A i.toNat 4∧L i.toNat 6=A i.toNat 6∧L i.toNat 9=A i.toNat 9∧L i.toNat 10=A i.toNat 10∧L i.toNat 11=A i.toNat 11∧L i.toNat 12=A i.toNat 12∧L i.toNat 14=A i.toNat 14)
 (fp:0≤p∧p≤(F-1)*8) (fo:0≤o∧o≤A i.toNat 4) (fx:0≤x∧x≤Fu)
 (m1:0<A i.toNat 3→p=A i.toNat 0∧v=0) (m2:A i.toNat 3<o→(A i.toNat 0).tmod 8=0∧A i.toNat 1=0∧v=0) (m3:o≤A i.toNat 3+1∧A i.toNat 3-1≤o)
 (m4:v≠0→(v≤A i.toNat 1+1∧A i.toNat 1-1≤v∧p=A i.toNat 0+v∧ -S≤v∧v≤S)∧(x=B i.toNat 5-cost∨(B i.toNat 11≠ -1∧power≠0))):
 inv [n,F,S,W,Fu,nb,home,mode,at_] [L]∧gV [n,i',S,cost,power] [L,l0]:=by
 simp only[cW,gV,inv]at*
 have all:∀a:Nat,(a:Int)<n→aC F S W Fu nb home mode at_ (L a)∧L a 9=B a 9:=by
  intro a ha
  have k:=hk a ha
  have r:=hi.1 a ha
  clear hk hm hi
  by_cases hai:a=i.toNat
  ·subst hai
   obtain⟨eo2,eo4,eo6,eo9,eo10,eo11,eo12,eo14⟩:=eo
   obtain⟨k0,k1,k2,k3,k4,k6,k9,k10,k11,k12,k14,kx⟩:=k
   simp only[aC]at*
   rw[e0,e1,e3,e5,eo4,eo6,eo9,eo11,eo14,k4,k6,k9,k11,k14]
   refine⟨⟨fp,?_,⟨fo.1,by omega⟩,r.2.2.2.1,fx,r.2.2.2.2.2.1,r.2.2.2.2.2.2⟩,rfl⟩
   by_cases hv:v=0
   ·omega
   ·have:=(m4 hv).1;omega
  ·have hx:=hne a hai
   have:(a:Int)≠i:=by omega
   have kx:=k.2.2.2.2.2.2.2.2.2.2.2 this
   simp only[aC,hx]at*
   obtain⟨k0,k1,k2,k3,k4,k6,k9,k10,k11,k12,k14,-⟩:=k
   rw[k0,k1,k3,k4,kx.1,k6,k9,k11,k14]
   exact⟨r,rfl⟩
 refine⟨⟨fun a ha=>(all a ha).1,fun a b ha hb h1 h2=>?_⟩,fun a ha=>?_⟩
 ·rw[(all a ha).2]at h1
  rw[(all b hb).2]at h2
  exact hi.2 a b ha hb h1 h2
 ·have k:=hk a ha
  have q:=hm a ha
  clear hk hm hi all
  by_cases hai:a=i.toNat
  ·subst hai
   obtain⟨eo2,eo4,eo6,eo9,eo10,eo11,eo12,eo14⟩:=eo
   obtain⟨k0,k1,k2,k3,k4,k6,k9,k10,k11,k12,k14,kx⟩:=k
   obtain⟨⟨q2,q4,q6,q9,q10,q11,q12,q14⟩,qs,-⟩:=q
   have qs:=qs (by omega)
   refine⟨by omega,fun h=>by omega,fun _=>?_⟩
   simp only[xh]
   rw[k0]at m1 m2 m4
   rw[k1]at m2 m4
   rw[k3]at m1 m2 m3
   rw[e0,e1,e3,e5,eo11,k11,←qs.1,←qs.2.1,←qs.2.2.1,←qs.2.2.2]
   exact⟨m1,m2,m3,m4⟩
  ·have hx:=hne a hai
   have hne':(a:Int)≠i:=by omega
   have kx:=k.2.2.2.2.2.2.2.2.2.2.2 hne'
   obtain⟨k0,k1,k2,k3,k4,k6,k9,k10,k11,k12,k14,-⟩:=k
   simp only[hx,xh]at*
   rw[k0,k1,k2,k3,k4,kx.1,k6,k9,k10,k11,k12,k14]
   exact⟨q.1,fun h=>q.2.1 (by omega),fun h=>q.2.2 (by omega)⟩
theorem vu{k k' i i' m n z:Int}{p l:LL}(h:gM [k,i,m,n] [p,l])(ha:tE [m,n] [l])(h0:0≤i)(him:i<m)(hi:i'=i+1)(hk:k'=((k.toNat:Nat):Int)+1):
 gM [k',i',m,n] [ah (ah p ((k.toNat:Nat):Int) 0 (l i.toNat 0)) ((k.toNat:Nat):Int) 1 z,l]:=by
 simp only[gM,tE]at*
 obtain⟨h1,h2,h3⟩:=h
 have e:∀a:Nat,ah (ah p ((k.toNat:Nat):Int) 0 (l i.toNat 0)) ((k.toNat:Nat):Int) 1 z a 0=if a=k.toNat then l i.toNat 0 else p a 0:=by
  intro a;simp only[ae,Int.toNat_natCast];simp
 simp only[e]
 refine⟨by omega,fun a hak=>?_,fun a b hak hbk hab=>?_⟩
 ·split
  ·exact⟨i.toNat,by omega,by omega,rfl⟩
  ·obtain⟨b,g1,g2,g3⟩:=h2 a (by omega)
   exact⟨b,by omega,g2,g3⟩
 ·have key:∀c:Nat,(c:Int)<k→p c 0≠l i.toNat 0:=by
   intro c hc e
   obtain⟨b,g1,g2,g3⟩:=h2 c hc
   have:=ha.2.2 b i.toNat (by omega) (by omega)
   omega
  split at hab<;>split at hab
  ·omega
  ·exact absurd hab.symm (key b (by omega))
  ·exact absurd hab (key a (by omega))
  ·exact h3 a b (by omega) (by omega) hab
theorem Z6{m i i':Int}{l:LL}(h:tE [m,i] [l])(hi:i'=i+1):tE [m,i'] [l]:=by
 simp only[tE]at*
 exact⟨by omega,fun a ha=>by have:=h.2.1 a ha;omega,h.2.2⟩
theorem a8l{m m' i i' z:Int}{l:LL}(h:tE [m,i] [l])(h0:0≤i)(hi:i'=i+1)(hm:m'=((m.toNat:Nat):Int)+1):
 tE [m',i'] [ah (ah l ((m.toNat:Nat):Int) 0 i) ((m.toNat:Nat):Int) 1 z]:=by
 simp only[tE]at*
 obtain⟨h1,h2,h3⟩:=h
 have e:∀a:Nat,ah (ah l ((m.toNat:Nat):Int) 0 i) ((m.toNat:Nat):Int) 1 z a 0=if a=m.toNat then i else l a 0:=by
  intro a;simp only[ae,Int.toNat_natCast];simp
 simp only[e]
 refine⟨by omega,fun a ha=>?_,fun a b hb hab=>?_⟩
 ·split
  ·omega
  ·have:=h2 a (by omega);omega
 ·have ha:a≠m.toNat:=by omega
  simp only[ha,if_false]
  split
  ·have:=h2 a (by omega);omega
  ·exact h3 a b (by omega) hab
theorem vw{n F S W Fu nb home mode at_:Int}{l l0:LL}(ht:eV [n,n] [l,l0])(hi:inv [n,F,S,W,Fu,nb,home,mode,at_] [l0]):inv [n,F,S,W,Fu,nb,home,mode,at_] [l]:=by
 simp only[eV,inv]at*
 refine⟨fun a ha=>?_,fun a b ha hb h1 h2=>?_⟩
 ·have t:=ht a ha
  have q:=hi.1 a ha
  clear ht hi
  obtain⟨t1,-,t3⟩:=t
  rcases t3 ha with⟨e9,e11⟩|⟨f1,f2,f3,f4,f5,e11,e9⟩
  ·simp only[aC]at*;grind
  ·by_cases h2:l0 a 9=2
   ·rw[if_pos h2]at e9;simp only[aC]at*;grind
   ·rw[if_neg h2]at e9;simp only[aC]at*;grind
 ·have t:=(ht a ha).2.2 ha
  have t':=(ht b hb).2.2 hb
  exact hi.2 a b ha hb (by grind) (by grind)
theorem I1{n S cost power mode at_:Int}{l l0:LL}(ht:gV [n,n,S,cost,power] [l,l0])(hw:fM [n,mode,at_] [l0]):fM [n,mode,at_] [l]:=by
 simp only[gV,fM]at*
 intro a ha
 have t:=(ht a ha).1
 have q:=hw a ha
 clear ht hw
 simp only[fR]at*;grind
theorem I2{n F S W Fu nb home mode at_:Int}{l l0:LL}(ht:eV [n,n] [l,l0])(hi:inv [n,F,S,W,Fu,nb,home,mode,at_] [l0])(hw:fM [n,mode,at_] [l0]):XD [n,home,W] [l]:=by
 simp only[eV,inv,fM,XD]at*
 intro a ha
 have t:=ht a ha
 have q:=hi.1 a ha
 have u:=hw a ha
 clear ht hi hw
 obtain⟨t1,-,t3⟩:=t
 rcases t3 ha with⟨e9,e11⟩|⟨f1,f2,f3,f4,f5,e11,e9⟩
 ·simp only[aC,fR]at*;grind
 ·by_cases h2:l0 a 9=2
  ·rw[if_pos h2]at e9
   simp only[aC,fR]at*
   have hj:l0 a 11=home:=q.2.2.2.2.2.2.2.2.2.1 h2
   have h10:l0 a 10=2:=by grind
   refine⟨by omega,?_⟩
   right;right;right;right;right;right;right
   exact⟨e9,by omega,by omega,by omega,by omega,e11⟩
  ·rw[if_neg h2]at e9;simp only[aC,fR]at*;grind
theorem I4{n:Int}{l l0:LL}(h:nO [n] [l,l0])(hj:cV [n] [l0]):cV [n] [l]:=by
 simp only[nO,cV]at*
 exact fun a ha=>h a ha (hj a ha)
theorem I5{n:Int}{l l0:LL}(h:gL [n] [l,l0])(hj:cV [n] [l0]):cV [n] [l]:=by
 simp only[gL,cV]at*
 intro a ha;have:=h a ha;have:=hj a ha;omega
theorem Db{n S cost power:Int}{l l0:LL}(h:gV [n,n,S,cost,power] [l,l0])(hj:cV [n] [l0]):cV [n] [l]:=by
 simp only[gV,cV]at*
 intro a ha;have:=(h a ha).1;have:=hj a ha;omega
theorem Dc{n:Int}{l l0:LL}(h:eV [n,n] [l,l0])(hj:cV [n] [l0]):cV [n] [l]:=by
 simp only[eV,cV]at*
 intro a ha;have:=(h a ha).2.2 ha;have:=hj a ha;omega
theorem PP{n:Int}{l:LL}(h:tC [n] [l])(hj:cV [n] [l]):False:=by
 simp only[tC,cV]at*
 obtain⟨a,h1,h2⟩:=h
 exact h2 (hj a h1)
theorem vx{n m:Int}{l p:LL}(h:Hw [n,m] [l,p])(hp:ft [m,n] [p])(hj:cV [n] [l]):m=0:=by
 simp only[Hw,ft,cV]at*
 by_cases hm:m=0
 ·exact hm
 ·exfalso
  have h0:=hp.2.2.1 0 (by omega)
  exact h 0 (by omega) h0.2 (hj _ (by omega))
theorem Z7{n F S W Fu nb home mode at_ at':Int}{l:LL}(hi:inv [n,F,S,W,Fu,nb,home,mode,at_] [l])(hh:0≤home)(h:at'≠at_→at_≠0→cV [n] [l]):inv [n,F,S,W,Fu,nb,home,mode,at'] [l]:=by
 simp only[inv]at*
 refine⟨fun a ha=>?_,hi.2⟩
 have q:=hi.1 a ha
 simp only[aC]at*
 refine⟨q.1,q.2.1,q.2.2.1,q.2.2.2.1,q.2.2.2.2.1,q.2.2.2.2.2.1,q.2.2.2.2.2.2.1,q.2.2.2.2.2.2.2.1,q.2.2.2.2.2.2.2.2.1,q.2.2.2.2.2.2.2.2.2.1,q.2.2.2.2.2.2.2.2.2.2.1,q.2.2.2.2.2.2.2.2.2.2.2.1,fun h2=>?_⟩
 have e:=q.2.2.2.2.2.2.2.2.2.2.2.2 h2
 have ej:=q.2.2.2.2.2.2.2.2.2.1 h2
 by_cases he:at'=at_
 ·rw[he];exact e
 ·have:=h he (by omega)
  simp only[cV]at this
  have:=this a ha
  omega
theorem ag7{i s:Int}{l:LL}(hi:i=0)(hs:s=0):kQ [i,s] [l]:=by
 subst hi;subst hs;exact⟨Int.le_refl _,rfl⟩
theorem Z8{i i' s s':Int}{l:LL}(h:kQ [i,s] [l])(hi:i'=i+1)(hs:s'=s+l i.toNat 0):kQ [i',s'] [l]:=by
 simp only[kQ]at*
 obtain⟨h0,h1⟩:=h
 have e:i'.toNat=i.toNat+1:=by omega
 rw[e,hs,h1]
 exact⟨by omega,rfl⟩
theorem I6{i i' nb x x':Int}{l:LL}(h:iT [i,nb,x] [l])(hb:¬x<l i.toNat 0)(hn:i<nb)(hi:i'=i+1)(hx:x'=x-l i.toNat 0):iT [i',nb,x'] [l]:=by
 simp only[iT]at*
 obtain⟨h0,h1,h2⟩:=h
 have e:i'.toNat=i.toNat+1:=by omega
 refine⟨by omega,by omega,?_⟩
 rw[e]
 show x'+(qO l i.toNat+l i.toNat 0)<_
 omega
theorem vy{nb s x:Int}{l:LL}(h:kQ [nb,s] [l])(h0:0≤x)(hx:x<s):iT [0,nb,x] [l]:=by
 simp only[kQ,iT]at*
 obtain⟨h1,h2⟩:=h
 refine⟨⟨by omega,h1⟩,h0,?_⟩
 show x+qO l 0<_
 have:qO l 0=0:=rfl
 rw[this];omega
theorem Oi{m m' F S W Fu nb home at_ bk:Int}{l L:LL}(h:inv [m,F,S,W,Fu,nb,home,0,at_] [l])(hm:m'=m+1)(h0:0≤m)(hF:1≤F)(hS:0≤S)(hW:0≤W)(hFu:0≤Fu)(hb:0≤bk∧bk<nb)
 (hne:∀a:Nat,a≠m.toNat→∀j,L a j=l a j) (e0:L m.toNat 0=0) (e1:L m.toNat 1=0) (e3:L m.toNat 3=W) (e4:L m.toNat 4=W) (e5:L m.toNat 5=Fu) (e6:L m.toNat 6=Fu) (e9:L m.toNat 9=0) (e11:L m.toNat 11= -1) (e14:L m.toNat 14=bk):
 inv [m',F,S,W,Fu,nb,home,0,at_] [L]:=by
 simp only[inv]at*
 have key:∀a:Nat,(a:Int)<m'→aC F S W Fu nb home 0 at_ (L a):=by
  intro a ha
  by_cases hai:a=m.toNat
  ·subst hai
   simp only[aC,e0,e1,e3,e4,e5,e6,e9,e11,e14]
   refine⟨⟨by omega,by omega⟩,⟨by omega,by omega⟩,⟨by omega,by omega⟩,trivial,⟨by omega,by omega⟩,trivial,⟨by omega,by omega⟩,⟨by omega,by omega⟩,hb,fun h=>by omega,fun h=>trivial,fun h=>by simp,fun h=>by omega⟩
  ·have q:=h.1 a (by omega)
   simp only[aC,hne a hai]at*
   exact q
 refine⟨key,fun a b ha hb' h1 h2=>?_⟩
 have q:=key a ha
 simp only[aC]at q
 have:=q.2.2.2.2.2.2.2.2.2.2.2.1
 exfalso
 rcases h1 with h1|h1
 ·have:=(this (by omega)).1 trivial;omega
 ·have:=(this (by omega)).1 trivial;omega
theorem vz{m m' x0 x1 x2 x3 x4 x5 x6:Int}{l L:LL}(h:dH [m] [l])(h0:0≤m)(hm:m'=m+1)(hL:L=ah (ah (ah (ah (ah (ah (ah l ((m.toNat:Nat):Int) 0 x0) ((m.toNat:Nat):Int) 1 x1) ((m.toNat:Nat):Int) 2 x2) ((m.toNat:Nat):Int) 3 x3) ((m.toNat:Nat):Int) 4 x4) ((m.toNat:Nat):Int) 5 x5) ((m.toNat:Nat):Int) 6 x6)
 (g0:1≤x0∧x0≤8) (g1:0≤x1∧x1≤1000) (g2:0≤x2∧x2≤1000) (g3:0≤x3∧x3≤1000) (g4:0≤x4∧x4≤100) (g5:0≤x5∧x5≤1000) (g6:0≤x6∧x6≤64):dH [m'] [L]:=by
 subst hL
 simp only[dH]at*
 intro a ha
 simp only[ae,Int.toNat_natCast]
 by_cases hai:a=m.toNat
 ·subst hai;simp;omega
 ·simp only[hai,false_and,if_false]
  exact h a (by omega)
theorem ab2(c e:Prop):(c∨¬c∧e)=(c∨e):=by by_cases h:c<;>simp[h]
theorem xN(c e:Prop):(c∧e∨¬c∧False)=(c∧e):=by by_cases h:c<;>simp[h]
theorem PQ:ab [([fb (nx (ix (lx 152 (c 0)) (.lit true) (.cmp .geq 152 (.nat 8))))],leq (c 0) 152),
([fb (nx (ix (lx 152 (c 0)) (.lit true) (.cmp .geq 152 (.nat 8))))],lss 152 (.nat 8)),
([fb (nx (ix (lx 152 (c 0)) (.lit true) (.cmp .geq 152 (.nat 8))))],lss (.nat 152) (.nat 8))]:=dS
theorem PR:ab [([],rx 14 [8] [2,2]),
([rx 13 [8,147,115] [2]],rx 13 [8,147,115] [(ux (ux 2 152 9 (c 5)) 152 11 (c (-1)))]),
([],rx 14 [8] [2,(ux (ux 2 152 9 (c 5)) 152 11 (c (-1)))])]:=qR
theorem PS:ab [([rx 12 [8,101,104,105,112,7,102,147,115] [2]],rx 12 [8,101,104,105,112,7,102,147,115] [(ux (ux 2 152 9 (c 5)) 152 11 (c (-1)))])]:=by
 repeat' (first|exact .nil|refine au ?_ ?_)
 all_goals(
  intro ρ h;simp only[vS,IE.den,BE.den,LE.den]at h⊢
  refine⟨fun a ha=>?_,fun a b ha hb=>?_⟩
  ·try have:=h.1 a ha
   try have:=h.1 (ρ.i 152).toNat (by omega)
   by_cases e:a=(ρ.i 152).toNat
   ·subst e
    clear h
    simp only[vR,ae,true_and,if_true,and_false,false_and,if_false,reduceIte,Nat.reduceEqDiff]at*
    grind
   ·clear h
    simp only[vR,ae,e,false_and,if_false]at*
    grind
  ·try have:=h.2 a b ha hb
   try have:=h.2 a (ρ.i 152).toNat ha (by omega)
   try have:=h.2 (ρ.i 152).toNat b (by omega) hb
   try have:=h.1 a ha
   try have:=h.1 b hb
   try have:=h.1 (ρ.i 152).toNat (by omega)
   clear h
   simp only[vR,ae,true_and,if_true,and_false,false_and,if_false,reduceIte,Nat.reduceEqDiff]at*
   grind)
theorem PU:ace.ok Tryz.prog:=ao aS.nil dW (a5t PQ (a5t PR PS)) [3,4,5,5,5,2,2,6,9,7,8] (by kernel_rfl)
theorem PV:ab [([fb (nx (ix (lx 152 (c 0)) (.lit true) (.cmp .geq 152 (.nat 8))))],leq (c 0) 152),
([fb (nx (ix (lx 152 (c 0)) (.lit true) (.cmp .geq 152 (.nat 8))))],lss 152 (.nat 8)),
([fb (nx (ix (lx 152 (c 0)) (.lit true) (.cmp .geq 152 (.nat 8))))],lss (.nat 152) (.nat 8))]:=dS
theorem PW:ab [([],rx 14 [8] [2,2]),
([],rx 14 [8] [2,2]),
([rx 13 [8,147,115] [2],eql 147 (c 0)],rx 13 [8,147,115] [(ux (ux 2 152 9 (c 1)) 152 9 (c 0))]),
([],rx 14 [8] [2,(ux (ux 2 152 9 (c 1)) 152 9 (c 0))]),
([rx 13 [8,147,115] [2]],rx 13 [8,147,115] [(ux 2 152 9 (c 1))]),
([],rx 14 [8] [2,(ux 2 152 9 (c 1))])]:=qR
theorem PX:ab [([rx 12 [8,101,104,105,112,7,102,147,115] [2],eql 147 (c 0)],rx 12 [8,101,104,105,112,7,102,147,115] [(ux (ux 2 152 9 (c 1)) 152 9 (c 0))])]:=by
 repeat' (first|exact .nil|refine au ?_ ?_)
 all_goals(
  intro ρ h;simp only[vS,IE.den,BE.den,LE.den]at h⊢
  obtain⟨h0,h1⟩:=h
  try simp only[IntKind.wrap_i64]at*
  refine⟨fun a ha=>?_,fun a b ha hb=>?_⟩
  ·first|have xa0:=h0.1 a ha|have xa0:=h
   by_cases e:a=(ρ.i 152).toNat
   ·simp only[aC,fR,xh,XE,ae,e,true_and,if_true,and_false,false_and,if_false,reduceIte,Nat.reduceEqDiff]at xa0⊢;grind
   ·simp only[aC,fR,xh,XE,ae,e,false_and,if_false]at xa0⊢;grind
  ·first|have z0:=h0.2 a b ha hb|have z0:=h
   first|have xa0:=h0.1 a ha|have xa0:=h
   first|have xb0:=h0.1 b hb|have xb0:=h
   try simp only[aC,fR,xh,XE,ae]at z0 xa0 xb0⊢
   grind)
theorem PY:ab [([rx 12 [8,101,104,105,112,7,102,147,115] [2],fb (nx (ex 147 (c 0))),fb (nx (ix (.cmp .neq (gx 2 152 9) (c 5)) (.lit true) (.cmp .neq (gx 2 152 1) (c 0))))],rx 12 [8,101,104,105,112,7,102,147,115] [(ux 2 152 9 (c 1))])]:=by
 repeat' (first|exact .nil|refine au ?_ ?_)
 all_goals(
  intro ρ h;simp only[vS,IE.den,BE.den,LE.den]at h⊢
  obtain⟨h0,h1,h2⟩:=h
  try simp only[IntKind.wrap_i64]at*
  refine⟨fun a ha=>?_,fun a b ha hb=>?_⟩
  ·first|have xa0:=h0.1 a ha|have xa0:=h
   by_cases e:a=(ρ.i 152).toNat
   ·simp only[aC,fR,xh,XE,ae,e,true_and,if_true,and_false,false_and,if_false,reduceIte,Nat.reduceEqDiff]at xa0⊢;grind
   ·simp only[aC,fR,xh,XE,ae,e,false_and,if_false]at xa0⊢;grind
  ·first|have z0:=h0.2 a b ha hb|have z0:=h
   first|have xa0:=h0.1 a ha|have xa0:=h
   first|have xb0:=h0.1 b hb|have xb0:=h
   try simp only[aC,fR,xh,XE,ae]at z0 xa0 xb0⊢
   grind)
theorem PZ:acf.ok Tryz.prog:=ao aS.nil dW (a5t PV (a5t PW (a5t PX PY))) [3,4,5,5,5,5,5,2,2,6,2,2,6,12,8,9,13,10,11] (by kernel_rfl)
theorem Z9:ab [([fb (nx (ix (lx 152 (c 0)) (.lit true) (.cmp .geq 152 (.nat 8))))],leq (c 0) 152),
([fb (nx (ix (lx 152 (c 0)) (.lit true) (.cmp .geq 152 (.nat 8))))],lss 152 (.nat 8)),
([fb (nx (ix (lx 152 (c 0)) (.lit true) (.cmp .geq 152 (.nat 8))))],lss (.nat 152) (.nat 8))]:=dS
theorem Za:ab [([],rx 14 [8] [2,2]),
([],rx 14 [8] [2,2]),
([],rx 14 [8] [2,2]),
([rx 12 [8,101,104,105,112,7,102,147,115] [2]],rx 12 [8,101,104,105,112,7,102,147,115] [(ux 2 152 2 153)]),
([rx 13 [8,147,115] [2]],rx 13 [8,147,115] [(ux 2 152 2 153)]),
([],rx 14 [8] [2,(ux 2 152 2 153)])]:=qR
theorem Zb:aew.ok Tryz.prog:=ao aS.nil dW (a5t Z9 Za) [3,4,5,5,5,5,5,2,2,6,2,2,6,2,2,6,9,10,11] (by kernel_rfl)
theorem I7:a76.ok Tryz.prog:=ao (.cons Ys .nil) dW .nil [2,2] (by kernel_rfl)
theorem I8:a77.ok Tryz.prog:=ao (.cons a7y .nil) dW .nil [2,2] (by kernel_rfl)
theorem Q0:ab [([eql 202 (c 0)],rx 23 [201,202] [2]),
([rx 23 [201,202] [2]],leq (c 0) 202),
([rx 23 [201,202] [2]],lss 202 (c 18446744073709551616)),
([rx 23 [201,202] [2],leq 201 (.nat 8)],rx 23 [8,202] [2]),
([rx 23 [201,202] [2]],leq (c 0) 202),
([rx 23 [201,202] [2]],lss 202 (c 18446744073709551616))]:=kj
theorem Q1:ab [([eql 201 (c 0)],leq (c 0) 201),
([eql 201 (c 0)],leq 201 (.nat 8)),
([eql 205 (wx (.add 201 (c 1))),lss 201 (.nat 8),leq 8 (c 64)],lss (.nat (.sub (.nat 8) 205)) (.nat (.sub (.nat 8) 201))),
([eql 205 (wx (.add 201 (c 1))),leq (c 0) 201,leq 201 (.nat 8),leq 8 (c 64)],leq (c 0) 205),
([eql 205 (wx (.add 201 (c 1))),leq (c 0) 201,lss 201 (.nat 8)],leq 205 (.nat 8)),
([eql 207 (wx (.add 201 (c 1))),lss 201 (.nat 8),leq 8 (c 64)],lss (.nat (.sub (.nat 8) 207)) (.nat (.sub (.nat 8) 201))),
([eql 207 (wx (.add 201 (c 1))),leq (c 0) 201,lss 201 (.nat 8),leq 8 (c 64)],leq (c 0) 207),
([eql 207 (wx (.add 201 (c 1))),leq (c 0) 201,lss 201 (.nat 8)],leq 207 (.nat 8))]:=dS
theorem Q2:ab [([eql 205 (wx (.add 201 (c 1))),eql 206 204,rx 19 [204,202,201] [],rx 23 [201,202] [2],leq 201 (.nat 8),fb (ix (ix (ex (gx 2 201 9) (c 3)) (.lit true) (ex (gx 2 201 9) (c 4))) (ix (ex (gx 2 201 10) (c 3)) (.lit true) (ex (gx 2 201 10) (c 4))) (.lit false)),leq 8 (c 64)],rx 23 [205,206] [2])]:=by
 repeat' (first|exact .nil|refine au ?_ ?_)
 all_goals(
  intro ρ h;simp only[vS,IE.den,BE.den,LE.den]at h⊢
  try have:=h.2.2.2.1.2 (ρ.i 201).toNat
  skip
  simp only[vR,IntKind.wrap_i64]at*
  grind)
theorem adw:ab [([eql 207 (wx (.add 201 (c 1))),eql 208 202,rx 23 [201,202] [2],leq 201 (.nat 8),fb (nx (ix (ix (ex (gx 2 201 9) (c 3)) (.lit true) (ex (gx 2 201 9) (c 4))) (ix (ex (gx 2 201 10) (c 3)) (.lit true) (ex (gx 2 201 10) (c 4))) (.lit false))),leq 8 (c 64)],rx 23 [207,208] [2])]:=by
 repeat' (first|exact .nil|refine au ?_ ?_)
 all_goals(
  intro ρ h;simp only[vS,IE.den,BE.den,LE.den]at h⊢
  try have:=h.2.2.1.2 (ρ.i 201).toNat
  skip
  simp only[vR,IntKind.wrap_i64]at*
  grind)
theorem vA:acg.ok Tryz.prog:=ao (.cons D6 .nil) dW (a5t Q0 (a5t Q1 (a5t Q2 adw))) [3,9,10,2,2,0,0,0,4,5,11,17,12,13,14,18,15,16,6,4,5] (by kernel_rfl)
theorem Zc:ab [([fb (nx (ix (lx 152 (c 0)) (.lit true) (.cmp .geq 152 (.nat 8))))],leq (c 0) 152),
([fb (nx (ix (lx 152 (c 0)) (.lit true) (.cmp .geq 152 (.nat 8))))],lss 152 (.nat 8)),
([fb (nx (ix (lx 152 (c 0)) (.lit true) (.cmp .geq 152 (.nat 8))))],lss (.nat 152) (.nat 8))]:=dS
theorem Zd:aex.ok Tryz.prog:=ao (.cons tM (.cons vA (.cons Of .nil))) dW Zc [3,4,5,5] (by kernel_rfl)
theorem Q3:ab [([rx 12 [8,101,104,105,112,7,102,147,115] [2],leq (c 0) 150,lss 150 8],leq (c 0) (gx 2 150 14))]:=by
 repeat' (first|exact .nil|refine au ?_ ?_)
 all_goals(
  intro ρ h;simp only[vS,IE.den,BE.den,LE.den]at h⊢
  try have:=h.1.1 (ρ.i 150).toNat (by omega)
  skip
  simp only[vR,IntKind.wrap_i64]at*
  omega)
theorem Q4:ab [([rx 16 [101,102,104,105,106,107,108,109,110,111,112,8,7,5,6] [],rx 12 [8,101,104,105,112,7,102,147,115] [2],leq (c 0) 150,lss 150 8],lss (gx 2 150 14) (.nat 5)),
([rx 16 [101,102,104,105,106,107,108,109,110,111,112,8,7,5,6] [],rx 12 [8,101,104,105,112,7,102,147,115] [2],leq (c 0) 150,lss 150 8],lss (.nat (gx 2 150 14)) (.nat 5))]:=by
  repeat' (first|exact .nil|refine au ?_ ?_)
  all_goals(
   intro ρ h;simp only[vS,IE.den,BE.den,LE.den]at h⊢
   try have:=h.2.1.1 (ρ.i 150).toNat (by omega)
   skip
   simp only[vR,IntKind.wrap_i64]at*
   omega)
theorem Q5:ab [([],.imp (ix (ix (ix (ix (ex 147 (c 0)) (.lit true) (ex (gx 2 150 9) (c 5))) (.lit true) (.cmp .neq (gx 2 150 11) (c (-1)))) (.lit true) (ix (ix (ex (gx 2 150 1) (c 0)) (ex (.rem (gx 2 150 0) (c 8)) (c 0)) (.lit false)) (ex (gx 2 150 3) (gx 2 150 4)) (.lit false))) (.lit false) (ix (ix (.cmp .neq (gx 2 150 1) (c 0)) (.cmp .neq (gx 2 150 1) (.ite (.cmp .geq (gx 2 150 2) (gx 5 (gx 2 150 14) 6)) (c (-1)) (c 1))) (.lit false)) (.lit false) (jx (wx (.mul 111 (wx (.add (.ite (ix (ex (.ite (.cmp .geq (gx 2 150 2) (gx 5 (gx 2 150 14) 6)) (c (-1)) (c 1)) (c 0)) (.lit true) (ex (.rem (gx 2 150 0) (c 8)) (c 0))) (c 0) (.ite (lx (.ite (.cmp .geq (gx 2 150 2) (gx 5 (gx 2 150 14) 6)) (c (-1)) (c 1)) (c 0)) (.rem (gx 2 150 0) (c 8)) (wx (.sub (c 8) (.rem (gx 2 150 0) (c 8)))))) (wx (.sub (gx 2 150 4) (gx 2 150 3))))))) (gx 2 150 5)))) (fb (.cmp .neq 147 (c 0))))]:=kj
theorem Q6:ab [([leq (c 0) 8,leq 8 (c 64),rx 16 [101,102,104,105,106,107,108,109,110,111,112,8,7,5,6] [],rx 12 [8,101,104,105,112,7,102,147,115] [2],leq (c 0) 150,lss 150 8],.imp (ix (ix (ix (ix (ex 147 (c 0)) (.lit true) (ex (gx 2 150 9) (c 5))) (.lit true) (.cmp .neq (gx 2 150 11) (c (-1)))) (.lit true) (ix (ix (ex (gx 2 150 1) (c 0)) (ex (.rem (gx 2 150 0) (c 8)) (c 0)) (.lit false)) (ex (gx 2 150 3) (gx 2 150 4)) (.lit false))) (.lit false) (ix (ix (.cmp .neq (gx 2 150 1) (c 0)) (.cmp .neq (gx 2 150 1) (.ite (.cmp .geq (gx 2 150 2) (gx 5 (gx 2 150 14) 6)) (c (-1)) (c 1))) (.lit false)) (.lit false) (jx (wx (.mul 111 (wx (.add (.ite (ix (ex (.ite (.cmp .geq (gx 2 150 2) (gx 5 (gx 2 150 14) 6)) (c (-1)) (c 1)) (c 0)) (.lit true) (ex (.rem (gx 2 150 0) (c 8)) (c 0))) (c 0) (.ite (lx (.ite (.cmp .geq (gx 2 150 2) (gx 5 (gx 2 150 14) 6)) (c (-1)) (c 1)) (c 0)) (.rem (gx 2 150 0) (c 8)) (wx (.sub (c 8) (.rem (gx 2 150 0) (c 8)))))) (wx (.sub (gx 2 150 4) (gx 2 150 3))))))) (gx 2 150 5)))) (.imp (.cmp .neq (.rem (gx 2 150 0) (c 8)) (c 0)) (leq 111 (gx 2 150 5))))]:=by
 repeat' (first|exact .nil|refine au ?_ ?_)
 all_goals(
  intro ρ h;simp only[vS,IE.den,BE.den,LE.den]at h⊢
  obtain⟨h0,h1,h2,h3,h4,h5⟩:=h
  have x:=h3.1 (ρ.i 150).toNat (by omega)
  clear h3
  simp only[vR]at h2 x
  intro g hm
  refine Z5 (dir:=if ρ.l 5 (ρ.l 2 (ρ.i 150).toNat 14).toNat 6≤ρ.l 2 (ρ.i 150).toNat 2 then -1 else 1) (p:=ρ.l 2 (ρ.i 150).toNat 0) (l:=ρ.l 2 (ρ.i 150).toNat 3) (k:=ρ.l 2 (ρ.i 150).toNat 4) ?_ ?_ ?_ ?_ ?_ ?_
  ·split<;>simp
  all_goals grind)
theorem m7:ach.ok Tryz.prog:=ao aS.nil dW (a5t Q3 (a5t Q4 (a5t Q5 Q6))) [0,0,3,4,5,0,0,0,0,0,0,0,0,0,6,7] (by kernel_rfl)
theorem Q7:ab [([eql 200 (c 0),rx 0 [] [201,2]],rx 27 [200,8,150] [201,2])]:=qR
theorem Q8:ab [([eql 200 (c 0)],leq (c 0) 200),
([eql 200 (c 0)],leq 200 (.nat 8)),
([eql 202 (wx (.add 200 (c 1))),lss 200 (.nat 8),leq 8 (c 64)],lss (.nat (.sub (.nat 8) 202)) (.nat (.sub (.nat 8) 200))),
([eql 202 (wx (.add 200 (c 1))),leq (c 0) 200,lss 200 (.nat 8),leq 8 (c 64)],leq (c 0) 202),
([eql 202 (wx (.add 200 (c 1))),leq (c 0) 200,lss 200 (.nat 8)],leq 202 (.nat 8)),
([eql 204 (wx (.add 200 (c 1))),lss 200 (.nat 8),leq 8 (c 64)],lss (.nat (.sub (.nat 8) 204)) (.nat (.sub (.nat 8) 200))),
([eql 204 (wx (.add 200 (c 1))),leq (c 0) 200,lss 200 (.nat 8),leq 8 (c 64)],leq (c 0) 204),
([eql 204 (wx (.add 200 (c 1))),leq (c 0) 200,lss 200 (.nat 8)],leq 204 (.nat 8))]:=dS
theorem Q9:ab [([eql 202 (wx (.add 200 (c 1))),rx 0 [] [203,(ux 201 200 9 (c 3))],rx 27 [200,8,150] [201,2],leq (c 0) 200,fb (ix (ex (gx 201 200 9) (c 4)) (.cmp .neq 200 150) (.lit false)),lss 200 (.nat 8),leq 8 (c 64)],rx 27 [202,8,150] [203,2])]:=by
 repeat' (first|exact .nil|refine au ?_ ?_)
 all_goals(
  intro ρ h;simp only[vS,IE.den,BE.den,LE.den]at h⊢
  obtain⟨h0,h1,h2,h3,h4,h5,h6⟩:=h
  try simp only[IntKind.wrap_i64]at*
  intro a ha
  first|have xa2:=h2 a ha|have xa2:=h
  simp only[h1]
  by_cases e:a=(ρ.i 200).toNat
  ·simp only[aC,fR,xh,XE,ae,e,true_and,if_true,and_false,false_and,if_false,reduceIte,Nat.reduceEqDiff]at xa2⊢;grind
  ·simp only[aC,fR,xh,XE,ae,e,false_and,if_false]at xa2⊢;grind)
theorem Qa:ab [([eql 204 (wx (.add 200 (c 1))),rx 0 [] [205,201],rx 27 [200,8,150] [201,2],leq (c 0) 200,fb (nx (ix (ex (gx 201 200 9) (c 4)) (.cmp .neq 200 150) (.lit false))),lss 200 (.nat 8),leq 8 (c 64)],rx 27 [204,8,150] [205,2])]:=by
 repeat' (first|exact .nil|refine au ?_ ?_)
 all_goals(
  intro ρ h;simp only[vS,IE.den,BE.den,LE.den]at h⊢
  obtain⟨h0,h1,h2,h3,h4,h5,h6⟩:=h
  try simp only[IntKind.wrap_i64]at*
  intro a ha
  first|have xa2:=h2 a ha|have xa2:=h
  simp only[h1]
  try simp only[aC,fR,xh,XE,ae]at xa2⊢
  grind)
theorem Qb:ab [([leq (c 0) 8,rx 27 [200,8,150] [201,2],leq 200 (.nat 8),fb (nx (lx 200 (.nat 8)))],rx 27 [8,8,150] [201,2])]:=kj
theorem vB:aci.ok Tryz.prog:=ao aS.nil dW (a5t Q7 (a5t Q8 (a5t Q9 (a5t Qa Qb)))) [3,4,5,2,2,0,0,0,6,12,7,8,9,13,10,11,14] (by kernel_rfl)
def aey:bg:={f:=107,M:=200,args:=[.ptr (.fm 3 (v 151) 0),iv 152,iv 153],H0:=[bq 3],pre:=[leq (c 0) (v 151),lss (v 151) (v 7),ff 3],N:=204,t:=.lf ⟨[ff 203],[],iv 201,[bq 203]⟩}
def CV:aO×aY:=bJ 89 [.ptr 3] 7 7
def fG(l:Nat):F:=.rel ee [v l,v 8] [.var l]
def CW:List (Nat×SV):=[(30,iv 230),(31,iv 231),(32,iv 232),(33,.lst 209)]
def XX:bg:={f:=124,M:=200,args:=[W,iv 150,iv 151],H0:=[wH [],aT 2,bq 3,CV,qQ,bx 9 9],pre:=fN++[gN,iU 2 (v 147) (v 115),ff 3,fG 9,leq (c 0) (v 150),lss (v 150) (v 8),leq (c 0) (v 151),leq (v 151) (c 31)],N:=240,t:=.lf ⟨[.imp (.var 201) (.rel aeg [v 8,v 150,v 151] [.var 202,.var 2]),.imp (.not (.var 201)) (.rel Nk [v 8] [.var 202,.var 2]),ff 203,fG 209],[],.b (.var 201),[wH CW,aT 202,bq 203,bx 209 209]⟩}
def aez:bg:={f:=117,M:=200,args:=[W,iv 150,iw 151],H0:=[wH [],aT 2,qQ,cI 14 14,XS],pre:=fN++[gN,iU 2 (v 147) (v 115),leq (c 0) (v 150),lss (v 150) (v 8)]++bc 14,N:=220,t:=.lf ⟨[.imp (.var 202) (.be (.ite (.cmp .leq (c 0) (v 201)) (.cmp .leq (v 201) (c 31)) (.lit false))),eql (v 214) (v 14)],[],.tup [iv 201,.b (.var 202)],[wH [(45,iw 203),(46,.lst 214)],cI 214 214]⟩}
def a79:bg:={f:=118,M:=200,args:=[W],H0:=[wH [],aT 2,qQ],pre:=fN++[gN,iU 2 (v 147) (v 115)],N:=202,t:=.lf ⟨[],[],iw 201,[]⟩}
def Pg:bg:={f:=61,M:=200,args:=[W],H0:=[wH [],aT 2,qQ,cI 14 14,XS],pre:=base++[eql (v 147) (c 0)]++bc 14,N:=220,t:=.lf ⟨ly 202++[eql (v 214) (v 14)],[],.tup [],[wH [(45,iw 203),(46,.lst 214)],aT 202,cI 214 214]⟩}
def CX:List (Nat×SV):=[(43,iv 243),(44,iv 244)]
def XY:bg:={f:=63,M:=200,args:=[W],H0:=[wH [],aT 2,bq 3,CV,qQ,bJ 3 [ki] 6 6,bx 9 9,bJ 56 [ki,ki,ki,ki,ki,ki,ki] 5 5],pre:=base++[eql (v 147) (c 2),eql (v 115) (c 2),.rel ka [v 8] [.var 2],ff 3,fG 9],N:=250,t:=.lf ⟨ly 202++[.imp (.not (.var 201)) (.rel XL [v 8] [.var 202]),.imp (.not (.var 201)) (.rel ka [v 8] [.var 202]),ff 203,fG 209],[],.b (.var 201),[wH (CW++CX),aT 202,bq 203,bx 209 209]⟩}
def a7a:bg:={f:=64,M:=200,args:=[W],H0:=[wH [],aT 2,bq 3,CV,qQ,bx 9 9,cI 14 14,XS,g2H],pre:=base++[eql (v 147) (c 2),eql (v 115) (c 2),.rel ka [v 8] [.var 2],.rel XL [v 8] [.var 2],ff 3,fG 9]++bc 14,N:=250,t:=.lf ⟨ly 202++[ff 203,fG 209,eql (v 214) (v 14)],[],.tup [],[wH (CW++CX++[(45,iw 245),(46,.lst 214)]),aT 202,bq 203,bx 209 209,cI 214 214]⟩}
def kf:cj:=fun f r b=>
 bif Nat.beq f 118&&Nat.beq r 3 then some {items:=fun _=>[.ri 11,.ri 3],inv:=co (bu b 10),mes:=fun n=> .sub (bu b 10) (v n)}
 else bif Nat.beq f 61&&Nat.beq r 1 then some {items:=fun _=>[.ri 11,.fm 2,.ci 1 45,.cl 1 46 false 72 [kw]],inv:=[.rel un (fun _=>[v 8,v 101,v 104,v 105,v 112,v 7,v 102,v 147,v 115]) (fun n=>[.var (n+1)]),.rel Nj (fun _=>[v 8,v 147,v 115]) (fun n=>[.var (n+1)]),.rel a72 (fun _=>[v 8]) (fun n=>[.var 2,.var (n+1)]),.be fun n=> .cmp .eql (v (n+3)) (v 14)]++co (bu b 10),mes:=fun n=> .sub (bu b 10) (v n)}
 else dW f r b
def Dd(o:Nat):SV:=.ptr (.fm 3 (v 151) o)
def adm:List F:=[leq (c 0) (v 151),lss (v 151) (v 7),ff 3]
def ag8:List F:=[leq (c 0) (v 151),lss (v 151) (v 7)]
def ahn(a b:Nat):F:=.rel 51 [.nat (v 151),c 9,c 132] [.var a,.var b]
def aho:bg:={f:=161,M:=200,args:=[Dd 0],H0:=[bq 3],pre:=ag8,N:=204,t:=.lf ⟨[ahn 203 3],[],.tup [],[bq 203]⟩}
def ag9:List SV:=[Dd 6,.fn (.func 161) [Dd 0] []]
def aga:bg:={f:=190,M:=200,args:=ag9,H0:=[bq 3],pre:=adm,N:=204,t:=.lf ⟨[ff 203],[],.tup [],[bq 203]⟩}
def I9(o:Nat)(x:IE):aO×aY:=(.h 3,.row true (.fam 134 lu (v 7) (.upd (.var 3) (v 151) o x)))
def agb:bg:={f:=210,M:=200,args:=[Dd 7],H0:=[bq 3],pre:=[leq (c 0) (v 151),lss (v 151) (v 7),eql (.get (.var 3) (v 151) 7) (c 0)],N:=204,t:=.lf ⟨[],[],.tup [],[I9 7 (c 1)]⟩}
def adn:bg:={f:=237,M:=200,args:=[Dd 7,.int .i32 (v 152)],H0:=[bq 3],pre:=[.be (.lit false)],N:=204,t:=.lf ⟨[],[],.tup [],[]⟩}
def a8m:bg:={f:=211,M:=200,args:=[Dd 7],H0:=[bq 3],pre:=[leq (c 0) (v 151),lss (v 151) (v 7),eql (.get (.var 3) (v 151) 7) (c 1)],N:=204,t:=.lf ⟨[],[],.tup [],[I9 7 (.wrap .i32 (.add (.get (.var 3) (v 151) 7) (c (-1))))]⟩}
def ado:bg:={f:=189,M:=200,args:=[Dd 6],H0:=[bq 3],pre:=[leq (c 0) (v 151),lss (v 151) (v 7)],N:=204,t:=.lf ⟨[],[],.b (.var 201),[]⟩}
def a8n:bg:={f:=212,M:=200,args:=[Dd 6,.b (.lit true)],H0:=[bq 3],pre:=[leq (c 0) (v 151),lss (v 151) (v 7)],N:=204,t:=.lf ⟨[],[],.tup [],[I9 6 (c 1)]⟩}
def qF:cj:=fun f r b=>
 bif Nat.beq f 161&&Nat.beq r 2 then some {items:=fun _=>[.ri 7,.fm 3],inv:=[.be fun n=> .cmp .leq (c 0) (v n),.be fun n=> .cmp .leq (v n) (c 65),.rel 51 (fun _=>[.nat (v 151),c 9,c 132]) (fun n=>[.var (n+1),.var 3])],mes:=fun n=> .sub (c 65) (v n),w:=2}
 else none
theorem a8o:ab [([eql 200 (c 0)],leq (c 0) 200),
([eql 200 (c 0)],leq 200 (c 65)),
([eql 226 (wx (.add 200 (c 1))),lss 200 (c 65)],lss (.nat (.sub (c 65) 226)) (.nat (.sub (c 65) 200))),
([eql 226 (wx (.add 200 (c 1))),leq (c 0) 200,leq 200 (c 65)],leq (c 0) 226),
([eql 226 (wx (.add 200 (c 1))),leq (c 0) 200,lss 200 (c 65)],leq 226 (c 65))]:=dS
theorem a8p:ab [([rx 0 [] [201,(ux 3 151 9 (wx (.add (gx 3 151 9) (c 1))))]],rx 51 [(.nat 151),(c 9),(c 132)] [201,3]),
([rx 0 [] [227,(ux 223 151 140 (.mx (.mx (gx 223 151 140) 224) 225))],rx 51 [(.nat 151),(c 75),(c 65)] [223,212],rx 51 [(.nat 151),(c 10),(c 65)] [212,201],rx 51 [(.nat 151),(c 9),(c 132)] [201,3]],rx 51 [(.nat 151),(c 9),(c 132)] [227,3])]:=qR
theorem a8q:aho.ok Tryz.prog:=ao aS.nil qF (a5t a8o a8p) [0,0,3,4,8,0,0,0,0,0,0,0,0,0,2,2,0,2,2,0,0,0,0,0,0,0,0,0,2,2,0,2,2,0,2,2,0,2,2,2,2,0,2,2,0,5,6,7,9,2] (by kernel_rfl)
theorem Ze:agb.ok Tryz.prog:=ao aS.nil qF .nil [2,0,0,0] (by kernel_rfl)
theorem Qc:ado.ok Tryz.prog:=ao aS.nil qF .nil [0] (by kernel_rfl)
theorem Qd:adn.ok Tryz.prog:=by
 intro C ρ w hpre
 exact absurd (aa.1 hpre).1 (by simp[F.holds,BE.den])
theorem ahk:ab [([fb (.cmp .neq (.wrap .i32 (.add (gx 3 151 7) (c (-1)))) (c 0)),leq (c 0) 151,lss 151 7,eql (gx 3 151 7) (c 1)],fb (.lit false))]:=by
 repeat' (first|exact .nil|refine au ?_ ?_)
 all_goals(
  intro ρ;(intro h;simp only[vS,IE.den,BE.den,LE.den]at h⊢;revert h;(try simp only[and_imp]);intros)
  have h:=(by assumption:IntKind.i32.wrap _≠0)
  have h1:=(by assumption:ρ.l 3 (ρ.i 151).toNat 7=1)
  rw[h1]at h
  exact h (by decide))
end Go.Proofs.YteelgjcnkhmigaaGreatDoor.K
namespace Go.Proofs.YteelgjcnkhmigaaGreatDoor.E
open Go.RowKit
section
variable [cg]
def bg.okD(P:Program)(c:bg):Prop:=
 ∀(C:bp) (σ:ap) (w:World) (u:FrameMode),ar σ c.pre→HD C σ c.H0 w→CallsD P c.f (c.args.map (SV.den σ)).toArray u w fun e u' w'=>u'=u∧∃σ',b7 c.M c.N σ σ'∧
  c.t.post σ' fun x=>ar σ' x.fs∧ar σ' x.pc∧e=.returned (x.s.den σ')∧HD C σ' (x.pre++c.H0) w'
theorem a8r{P:Program}{call:aU}(hcall:bI P call)(hN:iS P){dr:eK}(hdr:rJ P dr){lp:dG}(hlp:rK P lp){c:bg}{want:dU}{ks:List Nat}(hw:ab want)
 (h:tw c want ks (inl P call dr lp c.f c.args c.M c.H0 c.pre)=true):c.okD P:=by
 intro C σ w u hpre hd
 unfold tw at h
 split at h
 ·rename_i post o hct hco
  split at h
  ·rename_i v hlv
   simp only[Bool.and_eq_true]at h
   obtain⟨h1,h2,h3,h4,h5,h6,h7,h8,h9,h10⟩:=h
   have hpc:post.pc=[]:=by
    split at h1
    ·assumption
    ·cases h1
   have hMN:=Nat.le_of_ble_eq_true h2
   have hNB:=Nat.le_of_ble_eq_true h3
   obtain⟨c1,c2,_,c4⟩:=Cm hcall hN hdr hlp c.f c.args c.M c.H0 c.pre o hco h4 h5 h6 (by omega)
   obtain⟨fn,b,hf,hb,hwp⟩:=c4 ((jZ hw h10).app1) C σ w hpre hd
   refine(callsD_of_wp hf hb hwp).mono fun e u' w' he=>⟨he.1,?_⟩
   obtain⟨ρ',hag,hp⟩:=he.2
   have hpre':ar ρ' c.pre:=(aZ (hag.mono (Nat.le_refl _) c2) h6).2 hpre
   rw[hct]
   exact eQ hpc hMN hNB h4 h7 h8 h9 c2 hag hpre' hlv ((jZ hw h10).app2) hp
  ·cases h
 ·cases h
theorem HD.relist{C:bp}{ρ τ:ap}{id:Nat}{o:Bool}{e:TypeId}{ks:List CK}{n:IE}{le le':LE}{L L':af}{w:World}(hd:HD C ρ ((.h id,.row o (.fam e ks n le))::L) w)
 (hL:∀i,¬aO.h id=aO.h i→ai (.h i) L'=none) (hn:n.den τ=n.den ρ) (hf:τ.f id=ρ.f id) (hk:∀c,c∈ks→∀i m,c.v τ i m=c.v ρ i m) (hl:le'.den τ=le.den ρ):
 HD C τ ((.h id,.row o (.fam e ks n le'))::L') w:=by
 have hh:=hd.rows id o _ (bT _ _ _)
 have hi:∀{i p s},ai (.h i) ((aO.h id,aY.row o (am.fam e ks n le'))::L')=some (.row p s)→i=id∧p=o∧s=.fam e ks n le':=by
  intro i p s h
  rw[ak]at h
  split at h
  ·rename_i he
   obtain⟨rfl,rfl⟩:=aY.row.inj (Option.some.inj h)
   exact⟨(aO.h.inj he).symm,rfl,rfl⟩
  ·rename_i he
   rw[hL i he]at h;cases h
 have ho:∀b,(am.fam e ks n le').owns τ id b↔(am.fam e ks n le).owns ρ id b:=by
  intro b;simp only[am.owns,hn,hf]
 refine⟨fun i p s h=>?_,fun i s h b hb=>?_,fun i s h b hb=>?_,fun i j r s h1 h2 b hb hc=>?_,fun i j r s hij h1 h2 b hb hc=>?_,hd.fr⟩
 ·obtain⟨rfl,rfl,rfl⟩:=hi h
  simp only[am.holds,hn,hf,hl]at hh⊢
  refine⟨fun i hi=>?_,hh.2⟩
  obtain⟨cs,a1,a2,a3⟩:=hh.1 i hi
  exact⟨cs,a1,a2,fun j k hkk=>by rw[hk k (List.mem_of_getElem? hkk)];exact a3 j k hkk⟩
 ·obtain⟨rfl,rfl,rfl⟩:=hi h
  exact hd.own i _ (bT _ _ _) b ((ho b).1 hb)
 ·obtain⟨rfl,rfl,rfl⟩:=hi h
  exact hd.ro i _ (bT _ _ _) b ((ho b).1 hb)
 ·obtain⟨rfl,g1,_⟩:=hi h1
  obtain⟨rfl,g2,_⟩:=hi h2
  rw[←g1]at g2;cases g2
 ·obtain⟨rfl,_⟩:=hi h1
  obtain⟨rfl,_⟩:=hi h2
  exact absurd rfl hij
end
end Go.Proofs.YteelgjcnkhmigaaGreatDoor.E
namespace Go.Proofs.YteelgjcnkhmigaaGreatDoor.K
open Go.RowKit Go.Proofs.YteelgjcnkhmigaaGreatDoor.E
theorem Oj{cs:List bg}(hcs:aS cs)(ann:cj){c:bg}{want:dU}(hw:ab want)(ks:List Nat)(h:tw c want ks (inl Tryz.prog (v9 Tryz.prog (Ht cs) ann 12 12) (drF Tryz.prog (v9 Tryz.prog (Ht cs) ann 12 12)) (lpF ann 12 c.f) c.f c.args c.M c.H0 c.pre)=true):c.okD Tryz.prog:=
 a8r (gJ qP CS (jY hcs) ann 12 12) CS (Hn qP CS (gJ qP CS (jY hcs) ann 12 12)) (Xm Tryz.prog ann 12 c.f) hw h
theorem a8s:a8n.okD Tryz.prog:=Oj aS.nil qF .nil [0,0] (by kernel_rfl)
theorem a8t:a8m.okD Tryz.prog:=Oj (.cons Qd .nil) qF ahk [0,0,0,0,3] (by kernel_rfl)
def dM(σ:ap)(m:Nat)(L:LL):ap:={σ with l:=fun v=>if v=m then L else σ.l v}
def HT(C:bp)(σ:ap)(L:LL)(w:World):Prop:=HD C (dM σ 3 L) [bq 3] w
theorem tU(ρ τ:ap):∀c,c∈lu→∀i m,c.v τ i m=c.v ρ i m:=by
 intro c hc i m
 simp only[lu,List.mem_append,List.mem_cons,List.not_mem_nil,or_false,List.mem_replicate]at hc
 rcases hc with(rfl|rfl|rfl|rfl|rfl|rfl|rfl|rfl|rfl|rfl)|⟨_,rfl⟩<;>rfl
theorem HT.of{C:bp}{σ σ':ap}{L0:LL}{T:af}{le:LE}{w:World}(hag:b7 200 204 (dM σ 3 L0) σ')(h:HD C σ' ((.h 3,.row true (.fam 134 lu (v 7) le))::T) w):HT C σ (le.den σ') w:=
 h.relist (fun _ _=>rfl) (hag.i 7 (.inl (by decide))).symm (hag.f 3 (.inl (by decide))).symm (tU _ _) (by simp[LE.den,dM])
theorem HT.lock{C:bp}{σ:ap}{L:LL}{w:World}(h:HT C σ L w)(h0:0≤σ.i 151)(h1:σ.i 151<σ.i 7)(h7:L (σ.i 151).toNat 7=0):
 Calls Tryz.prog 210 #[.pointer (some ⟨σ.f 3 (σ.i 151).toNat,7,none⟩)] w fun e w'=>e=.returned (.tuple #[])∧HT C σ (ah L (σ.i 151) 7 1) w':=by
 have:=Ze C (dM σ 3 L) w (by
  refine aa.2 ⟨bD.2 h0,aa.2 ⟨fC.2 h1,aa.2 ⟨tn.2 ?_,aj _⟩⟩⟩
  exact h7) h
 refine Calls.mono this fun e w' ⟨σ',hag,_,_,he,hd⟩=>⟨he,?_⟩
 have:=HT.of hag hd
 have e1:σ'.l 3=L:=(hag.l 3 (.inl (by decide))).trans rfl
 have e2:σ'.i 151=σ.i 151:=hag.i 151 (.inl (by decide))
 simpa only[LE.den,IE.den,v,c,e1,e2] using this
theorem HT.load{C:bp}{σ:ap}{L:LL}{w:World}(h:HT C σ L w)(h0:0≤σ.i 151)(h1:σ.i 151<σ.i 7):
 Calls Tryz.prog 189 #[.pointer (some ⟨σ.f 3 (σ.i 151).toNat,6,none⟩)] w fun e w'=>∃b,e=.returned (.bool b)∧HT C σ L w':=by
 have:=Qc C (dM σ 3 L) w (aa.2 ⟨bD.2 h0,aa.2 ⟨fC.2 h1,aj _⟩⟩) h
 refine Calls.mono this fun e w' ⟨σ',hag,_,_,he,hd⟩=>⟨_,he,?_⟩
 have:=HT.of hag hd
 have e1:σ'.l 3=L:=(hag.l 3 (.inl (by decide))).trans rfl
 simpa only[LE.den,e1] using this
theorem HT.lay{C:bp}{σ:ap}{L:LL}{w:World}(h:HT C σ L w)(h0:0≤σ.i 151)(h1:σ.i 151<σ.i 7):
 Calls Tryz.prog 161 #[.pointer (some ⟨σ.f 3 (σ.i 151).toNat,0,none⟩)] w fun e w'=>e=.returned (.tuple #[])∧∃L',(∀a:Nat,L' a 7=L a 7)∧HT C σ L' w':=by
 have:=a8q C (dM σ 3 L) w (aa.2 ⟨bD.2 h0,aa.2 ⟨fC.2 h1,aj _⟩⟩) h
 refine Calls.mono this fun e w' ⟨σ',hag,hf,_,he,hd⟩=>⟨he,_,fun a=>?_,HT.of hag hd⟩
 have hr:=tz.1 (aa.1 hf).1
 have e1:σ'.l 3=L:=(hag.l 3 (.inl (by decide))).trans rfl
 simp only[List.map_cons,List.map_nil,LE.den,xw,ac,BL,c,IE.den]at hr
 have:=hr a 7 (.inr (.inl (by decide)))
 rw[e1]at this;exact this
theorem HT.store{C:bp}{σ:ap}{L:LL}{w:World}(u:FrameMode)(h:HT C σ L w)(h0:0≤σ.i 151)(h1:σ.i 151<σ.i 7):
 CallsD Tryz.prog 212 #[.pointer (some ⟨σ.f 3 (σ.i 151).toNat,6,none⟩),.bool true] u w fun e u' w'=>u'=u∧e=.returned (.tuple #[])∧HT C σ (ah L (σ.i 151) 6 1) w':=by
 have:=a8s C (dM σ 3 L) w u (aa.2 ⟨bD.2 h0,aa.2 ⟨fC.2 h1,aj _⟩⟩) h
 refine CallsD.mono this fun e u' w' ⟨hu,σ',hag,_,_,he,hd⟩=>⟨hu,he,?_⟩
 have:=HT.of hag hd
 have e1:σ'.l 3=L:=(hag.l 3 (.inl (by decide))).trans rfl
 have e2:σ'.i 151=σ.i 151:=hag.i 151 (.inl (by decide))
 simpa only[LE.den,IE.den,v,c,e1,e2] using this
theorem HT.unlock{C:bp}{σ:ap}{L:LL}{w:World}(u:FrameMode)(h:HT C σ L w)(h0:0≤σ.i 151)(h1:σ.i 151<σ.i 7)(h7:L (σ.i 151).toNat 7=1):
 CallsD Tryz.prog 211 #[.pointer (some ⟨σ.f 3 (σ.i 151).toNat,7,none⟩)] u w fun e u' w'=>u'=u∧e=.returned (.tuple #[])∧HT C σ (ah L (σ.i 151) 7 0) w':=by
 have:=a8t C (dM σ 3 L) w u (by
  refine aa.2 ⟨bD.2 h0,aa.2 ⟨fC.2 h1,aa.2 ⟨tn.2 ?_,aj _⟩⟩⟩
  exact h7) h
 refine CallsD.mono this fun e u' w' ⟨hu,σ',hag,_,_,he,hd⟩=>⟨hu,he,?_⟩
 have:=HT.of hag hd
 have e1:σ'.l 3=L:=(hag.l 3 (.inl (by decide))).trans rfl
 have e2:σ'.i 151=σ.i 151:=hag.i 151 (.inl (by decide))
 simp only[LE.den,IE.den,v,c,e1,e2,h7]at this
 exact this
set_option maxRecDepth 100000 in
set_option maxHeartbeats 1600000 in
theorem Qe{C:bp}{σ:ap}{L:LL}{w:World}(h:HT C σ L w)(h0:0≤σ.i 151)(h1:σ.i 151<σ.i 7)(h7:∀a:Nat,(a:Int)<σ.i 7→L a 7=0):
 Calls Tryz.prog 190 #[.pointer (some ⟨σ.f 3 (σ.i 151).toNat,6,none⟩),.func (.func 161) #[.pointer (some ⟨σ.f 3 (σ.i 151).toNat,0,none⟩)] #[]] w fun e w'=>e=.returned (.tuple #[])∧∃L',(∀a:Nat,(a:Int)<σ.i 7→L' a 7=0)∧HT C σ L' w':=by
 have hlock:=h.lock h0 h1 (h7 _ (by omega))
 have hload:=fun(L:LL) (w:World) (h:HT C σ L w)=>h.load h0 h1
 have hlay:=fun(L:LL) (w:World) (h:HT C σ L w)=>h.lay h0 h1
 have hstore:=fun(u:FrameMode) (L:LL) (w:World) (h:HT C σ L w)=>h.store u h0 h1
 have hun:=fun(u:FrameMode) (L:LL) (w:World) (h:HT C σ L w)=>h.unlock u h0 h1
 generalize σ.f 3 (σ.i 151).toNat=A at*
 go_enter_defers Tryz.func190,Tryz.ntmps190
 go_wp2_with (first|(go_at_call 210;refine hlock.mono ?_;rintro e w1 ⟨rfl,hd1⟩)|(go_at_call 189;refine(hload _ _ hd1).mono ?_;rintro e w2 ⟨b,rfl,hd2⟩;cases b)|(go_at_call 161;refine(hlay _ _ hd2).mono ?_;rintro e w3 ⟨rfl,L3,h3,hd3⟩))
 ·have hL7:∀a:Nat,L3 a 7=ah L (σ.i 151) 7 1 a 7:=h3
  refine leaves_cons (f:=212) (args:=#[.pointer (some ⟨A,6,none⟩),.bool true]) (by simp) (by simp[go_sem]) ?_
  refine(hstore .returning _ _ hd3).mono ?_
  rintro e u' w4 ⟨rfl,rfl,hd4⟩
  refine leaves_cons (f:=211) (args:=#[.pointer (some ⟨A,7,none⟩)]) (by simp[settle]) (by simp[go_sem]) ?_
  refine(hun _ _ _ hd4 (by rw[ae,if_neg (by omega),hL7,ae,if_pos ⟨rfl,rfl⟩])).mono ?_
  rintro e u' w5 ⟨rfl,rfl,hd5⟩
  simp only[Leaves,settle,results,Tryz.results190]
  refine⟨.tuple #[],by simp,rfl,_,fun a ha=>?_,hd5⟩
  rw[ae,ae,hL7,ae]
  have:=h7 a ha
  by_cases hc:a=(σ.i 151).toNat
  ·rw[if_pos ⟨hc,rfl⟩]
  ·rw[if_neg (fun h=>hc h.1),if_neg (fun h=>hc h.1),if_neg (fun h=>hc h.1)];exact this
 ·refine leaves_cons (f:=211) (args:=#[.pointer (some ⟨A,7,none⟩)]) (by simp) (by simp[go_sem]) ?_
  refine(hun .returning _ _ hd2 (by rw[ae,if_pos ⟨rfl,rfl⟩])).mono ?_
  rintro e u' w5 ⟨rfl,rfl,hd5⟩
  simp only[Leaves,settle,results,Tryz.results190]
  refine⟨.tuple #[],by simp,rfl,_,fun a ha=>?_,hd5⟩
  rw[ae,ae]
  have:=h7 a ha
  by_cases hc:a=(σ.i 151).toNat
  ·rw[if_pos ⟨hc,rfl⟩]
  ·rw[if_neg (fun h=>hc h.1),if_neg (fun h=>hc h.1)];exact this
theorem Zf:aga.ok Tryz.prog:=by
 intro C σ w hpre hd
 have hp1:=aa.1 hpre
 have hp2:=aa.1 hp1.2
 have hp3:=aa.1 hp2.2
 have h0:=bD.1 hp1.1
 have h1:=fC.1 hp2.1
 have h3:=tz.1 hp3.1
 simp only[v,c,IE.den]at h0 h1
 have hT:HT C σ (σ.l 3) w:=hd.relist (fun _ _=>rfl) rfl rfl (tU _ _) (by simp[LE.den,dM])
 have h7:∀a:Nat,(a:Int)<σ.i 7→σ.l 3 a 7=0:=h3
 refine Calls.mono (Qe hT h0 h1 h7) fun e w' ⟨he,L',h8,hd'⟩=>⟨dM σ 203 L',?_,?_⟩
 ·constructor<;>intro v hv<;>try rfl
  show(if v=203 then L' else σ.l v)=σ.l v
  have hv':v<200∨204≤v:=hv
  rw[if_neg (by omega)]
 ·refine⟨aa.2 ⟨?_,aj _⟩,aj _,he,?_⟩
  ·refine tz.2 ?_
   show∀a:Nat,(a:Int)<σ.i 7→(if 203=203 then L' else σ.l 203) a 7=0
   exact h8
  ·refine HD.relist (L':=[bq 3]) hd' (fun i hi=>?_) rfl rfl (tU _ _) ?_
   ·rw[bq,ak,if_neg hi];rfl
   ·simp[LE.den,dM]
theorem Zg:ab [([],leq (c 0) (.mn (.mx 152 (c 0)) (c 64))),
([],lss (.mn (.mx 152 (c 0)) (c 64)) (c 65)),
([],leq (c 0) (.mn (.mx 152 (c 0)) (c 64))),
([],lss (.mn (.mx 152 (c 0)) (c 64)) (c 65)),
([],leq (c 0) (.mn (.mx 152 (c 0)) (c 64))),
([],lss (.mn (.mx 152 (c 0)) (c 64)) (c 65)),
([],leq (c 0) (.mn (.mx 152 (c 0)) (c 64))),
([],lss (.mn (.mx 152 (c 0)) (c 64)) (c 65))]:=dS
theorem De:aey.ok Tryz.prog:=ao (.cons Zf .nil) qF Zg [0,3,4,0,3,4,3,4,0,3,4,0,3,4,0,3,4,3,4,0,3,4,0,2,2,2,2] (by kernel_rfl)
theorem Df:ab [([rx 12 [8,101,104,105,112,7,102,147,115] [2],leq (c 0) 150,lss 150 8],leq (c 0) (gx 2 150 14)),
([rx 12 [8,101,104,105,112,7,102,147,115] [2],leq (c 0) 150,lss 150 8],lss (gx 2 150 14) (.nat 7)),
([rx 12 [8,101,104,105,112,7,102,147,115] [2],leq (c 0) 150,lss 150 8],lss (.nat (gx 2 150 14)) (.nat 7)),
([rx 12 [8,101,104,105,112,7,102,147,115] [2],leq (c 0) 150,lss 150 8],lss (gx 2 150 14) 7)]:=by
  repeat' (first|exact .nil|refine au ?_ ?_)
  all_goals(
   intro ρ h;simp only[vS,IE.den,BE.den,LE.den]at h⊢
   try have:=h.1.1 (ρ.i 150).toNat (by omega)
   skip
   simp only[vR,IntKind.wrap_i64]at*
   omega)
theorem Dg:ab [([rx 7 [9,8] [9]],leq (c 0) 9),
([rx 16 [101,102,104,105,106,107,108,109,110,111,112,8,7,5,6] [],rx 7 [9,8] [9]],leq 9 (c 1000000))]:=lm
theorem Dh:ab [([leq (c 0) 150],.imp (ex 208 (c 0)) (rx 26 [8,150,151] [(ux (ux 2 150 11 151) 150 12 (c 1)),2])),
([],.imp (nx (ex 208 (c 0))) (rx 28 [8] [2,2]))]:=qR
theorem Di:ab [([eql 208 (c 0)],.imp (nx (ex 208 (c 0))) (rx 28 [8] [(ux (ux 2 150 11 151) 150 12 (c 1)),2])),
([fb (nx (ex 208 (c 0)))],.imp (ex 208 (c 0)) (rx 26 [8,150,151] [2,2]))]:=kj
theorem qT:XX.ok Tryz.prog:=ao (.cons Pw (.cons De .nil)) kf (a5t Df (a5t Dg (a5t Dh Di))) [2,0,0,0,3,4,5,0,0,3,6,7,8,0,0,9,11,2,2,12,10,2,2] (by kernel_rfl)
theorem Zh:ab [([],.imp (.lit false) (fb (.lit false))),
([],.imp (.lit false) (fb (.lit false)))]:=kj
theorem Zi:ab [([],eql 14 14),
([leq (c (-1)) 204,leq 204 (c 31)],.imp (.cmp .neq 204 (c (-1))) (fb (ix (jx (c 0) 204) (jx 204 (c 31)) (.lit false)))),
([],eql 14 14)]:=dS
theorem Dj:aez.ok Tryz.prog:=ao (.cons uB (.cons D0 .nil)) kf (a5t Zh Zi) [2,0,0,0,0,0,0,0,3,5,3,2,6,5] (by kernel_rfl)
theorem Ia:ab [([eql 200 (c 0)],leq (c 0) 200),
([eql 200 (c 0)],leq 200 (.nat 8)),
([eql 202 (wx (.add 200 (c 1))),lss 200 (.nat 8),leq 8 (c 64)],lss (.nat (.sub (.nat 8) 202)) (.nat (.sub (.nat 8) 200))),
([eql 202 (wx (.add 200 (c 1))),leq (c 0) 200,lss 200 (.nat 8),leq 8 (c 64)],leq (c 0) 202),
([eql 202 (wx (.add 200 (c 1))),leq (c 0) 200,lss 200 (.nat 8)],leq 202 (.nat 8)),
([eql 204 (wx (.add 200 (c 1))),lss 200 (.nat 8),leq 8 (c 64)],lss (.nat (.sub (.nat 8) 204)) (.nat (.sub (.nat 8) 200))),
([eql 204 (wx (.add 200 (c 1))),leq (c 0) 200,lss 200 (.nat 8),leq 8 (c 64)],leq (c 0) 204),
([eql 204 (wx (.add 200 (c 1))),leq (c 0) 200,lss 200 (.nat 8)],leq 204 (.nat 8))]:=dS
theorem Ib:ab [([leq (c 0) 200,fb (.cmp .neq (gx 2 200 11) (c (-1))),lss 200 (.nat 8),rx 12 [8,101,104,105,112,7,102,147,115] [2]],fb (.cmp .geq (gx 2 200 11) (c 0)))]:=by
 repeat' (first|exact .nil|refine au ?_ ?_)
 all_goals(
  intro ρ h;simp only[vS,IE.den,BE.den,LE.den]at h⊢
  try have:=h.2.2.2.1 (ρ.i 200).toNat (by omega)
  skip
  simp only[vR,IntKind.wrap_i64]at*
  omega)
theorem Ic:a79.ok Tryz.prog:=ao aS.nil kf (a5t Ia Ib) [3,4,2,2,0,0,0,11,5,6,7,8,9,10] (by kernel_rfl)
theorem xO:ab [([rx 0 [] [201,2],rx 12 [8,101,104,105,112,7,102,147,115] [2]],rx 12 [8,101,104,105,112,7,102,147,115] [201]),
([rx 0 [] [229,201],rx 12 [8,101,104,105,112,7,102,147,115] [201]],rx 12 [8,101,104,105,112,7,102,147,115] [229]),
([rx 0 [] [241,201],rx 12 [8,101,104,105,112,7,102,147,115] [201]],rx 12 [8,101,104,105,112,7,102,147,115] [241])]:=by
  repeat' (first|exact .nil|refine au ?_ ?_)
  all_goals(
   intro ρ h;simp only[vS,IE.den,BE.den,LE.den]at h⊢
   refine⟨fun a ha=>?_,fun a b ha hb=>?_⟩
   ·try have:=h.2.1 a ha
    simp only[h.1]
    skip
    simp only[vR]at*
    omega
   ·try have:=h.2.2 a b ha hb
    try have:=h.2.1 a ha
    try have:=h.2.1 b hb
    simp only[h.1]
    clear h
    simp only[vR]at*
    grind)
theorem xP:ab [([rx 0 [] [201,2],rx 13 [8,147,115] [2]],rx 13 [8,147,115] [201]),
([rx 0 [] [229,201],rx 13 [8,147,115] [201]],rx 13 [8,147,115] [229]),
([rx 0 [] [241,201],rx 13 [8,147,115] [201]],rx 13 [8,147,115] [241])]:=by
  repeat' (first|exact .nil|refine au ?_ ?_)
  all_goals(
   intro ρ h;simp only[vS,IE.den,BE.den,LE.den]at h⊢
   intro a ha
   try have:=h.2 a ha
   simp only[h.1]
   skip
   simp only[vR]at*
   omega)
theorem xQ:ab [([rx 0 [] [201,2]],rx 14 [8] [2,201]),
([rx 0 [] [229,201],rx 14 [8] [2,201]],rx 14 [8] [2,229]),
([rx 0 [] [233,(ux (ux 201 200 11 (wx (.quo (gx 201 200 0) (c 8)))) 200 12 (c 1))],rx 14 [8] [2,201]],rx 14 [8] [2,233]),
([rx 0 [] [237,(ux (ux 201 200 11 209) 200 12 (c 1))],rx 14 [8] [2,201]],rx 14 [8] [2,237]),
([rx 0 [] [241,201],rx 14 [8] [2,201]],rx 14 [8] [2,241])]:=qR
theorem xR:ab [([eql 200 (c 0)],leq (c 0) 200),
([eql 200 (c 0)],leq 200 (.nat 8)),
([leq (c 0) 200,lss 200 (.nat 8)],lss 200 8),
([eql 203 14,leq (c 0) 14],leq (c 0) 203),
([eql 203 14,leq 14 (c 1000000)],leq 203 (c 1000000)),
([eql 228 (wx (.add 200 (c 1))),lss 200 (.nat 8),leq 8 (c 64)],lss (.nat (.sub (.nat 8) 228)) (.nat (.sub (.nat 8) 200))),
([eql 231 203,eql 203 14],eql 231 14),
([eql 228 (wx (.add 200 (c 1))),leq (c 0) 200,lss 200 (.nat 8),leq 8 (c 64)],leq (c 0) 228),
([eql 228 (wx (.add 200 (c 1))),leq (c 0) 200,lss 200 (.nat 8)],leq 228 (.nat 8)),
([eql 232 (wx (.add 200 (c 1))),lss 200 (.nat 8),leq 8 (c 64)],lss (.nat (.sub (.nat 8) 232)) (.nat (.sub (.nat 8) 200))),
([eql 235 203,eql 203 14],eql 235 14),
([eql 232 (wx (.add 200 (c 1))),leq (c 0) 200,lss 200 (.nat 8),leq 8 (c 64)],leq (c 0) 232),
([eql 232 (wx (.add 200 (c 1))),leq (c 0) 200,lss 200 (.nat 8)],leq 232 (.nat 8)),
([eql 236 (wx (.add 200 (c 1))),lss 200 (.nat 8),leq 8 (c 64)],lss (.nat (.sub (.nat 8) 236)) (.nat (.sub (.nat 8) 200))),
([eql 239 222,eql 222 203,eql 203 14],eql 239 14),
([eql 236 (wx (.add 200 (c 1))),leq (c 0) 200,leq 200 (.nat 8),leq 8 (c 64)],leq (c 0) 236),
([eql 236 (wx (.add 200 (c 1))),leq (c 0) 200,lss 200 (.nat 8)],leq 236 (.nat 8)),
([eql 240 (wx (.add 200 (c 1))),lss 200 (.nat 8),leq 8 (c 64)],lss (.nat (.sub (.nat 8) 240)) (.nat (.sub (.nat 8) 200))),
([eql 243 222,eql 222 203,eql 203 14],eql 243 14),
([eql 240 (wx (.add 200 (c 1))),leq (c 0) 200,lss 200 (.nat 8),leq 8 (c 64)],leq (c 0) 240),
([eql 240 (wx (.add 200 (c 1))),leq (c 0) 200,lss 200 (.nat 8)],leq 240 (.nat 8))]:=dS
theorem xS:ab [([eql 232 (wx (.add 200 (c 1))),rx 0 [] [233,(ux (ux 201 200 11 (wx (.quo (gx 201 200 0) (c 8)))) 200 12 (c 1))],rx 12 [8,101,104,105,112,7,102,147,115] [201],rx 13 [8,147,115] [201],rx 14 [8] [2,201],leq (c 0) 200,leq 200 (.nat 8),fb (nx (ix (ex (gx 201 200 1) (c 0)) (ex (.rem (gx 201 200 0) (c 8)) (c 0)) (.lit false))),fb (nx (ix (ix (ex (gx 201 200 9) (c 5)) (.lit true) (.cmp .neq (gx 201 200 11) (c (-1)))) (.lit true) (.cmp .neq (gx 201 200 1) (c 0)))),lss 200 (.nat 8),leq (c 0) 8,leq 8 (c 64),rx 16 [101,102,104,105,106,107,108,109,110,111,112,8,7,5,6] [],rx 12 [8,101,104,105,112,7,102,147,115] [2],rx 13 [8,147,115] [2],eql 147 (c 0)],rx 12 [8,101,104,105,112,7,102,147,115] [233])]:=by
 repeat' (first|exact .nil|refine au ?_ ?_)
 all_goals(
  intro ρ h;simp only[vS,IE.den,BE.den,LE.den]at h⊢
  obtain⟨h0,h1,h2,h3,h4,h5,h6,h7,h8,h9,h10,h11,h12,h13,h14,h15⟩:=h
  have x0:=h2.1 (ρ.i 200).toNat (by omega)
  simp only[aC]at x0
  have hc:=h12;simp only[vR]at hc
  have h00:0≤ρ.l 201 (ρ.i 200).toNat 0∧ρ.l 201 (ρ.i 200).toNat 0≤248:=by omega
  rw[h1,Int.tdiv_eq_ediv_of_nonneg h00.1,cq (by omega)]
  clear h3 h4 h12 h13 h14
  refine⟨fun a ha=>?_,fun a b ha hb=>?_⟩
  ·have x:=h2.1 a ha
   clear h2
   by_cases e:a=(ρ.i 200).toNat
   ·simp only[aC,ae,e,true_and,if_true,reduceIte,Nat.reduceEqDiff,and_false,if_false]at x⊢;grind
   ·simp only[aC,ae,e,false_and,if_false]at x⊢;exact x
  ·have x:=h2.2 a b ha hb
   clear h2
   simp only[ae];grind)
theorem xT:ab [([rx 0 [] [233,(ux (ux 201 200 11 (wx (.quo (gx 201 200 0) (c 8)))) 200 12 (c 1))],rx 13 [8,147,115] [201]],rx 13 [8,147,115] [233]),
([rx 0 [] [237,(ux (ux 201 200 11 209) 200 12 (c 1))],rx 13 [8,147,115] [201]],rx 13 [8,147,115] [237])]:=by
  repeat' (first|exact .nil|refine au ?_ ?_)
  all_goals(
   intro ρ h;simp only[vS,IE.den,BE.den,LE.den]at h⊢
   intro a ha
   try have:=h.2 a ha
   try have:=h.2 (ρ.i 200).toNat (by omega)
   simp only[h.1]
   by_cases e:a=(ρ.i 200).toNat
   ·subst e
    clear h
    simp only[vR,ae,true_and,if_true,and_false,false_and,if_false,reduceIte,Nat.reduceEqDiff]at*
    grind
   ·clear h
    simp only[vR,ae,e,false_and,if_false]at*
    grind)
theorem xU:ab [([eql 236 (wx (.add 200 (c 1))),rx 0 [] [237,(ux (ux 201 200 11 209) 200 12 (c 1))],.imp 210 (fb (ix (jx (c 0) 209) (jx 209 (c 31)) (.lit false))),rx 12 [8,101,104,105,112,7,102,147,115] [201],rx 13 [8,147,115] [201],rx 14 [8] [2,201],leq (c 0) 200,leq 200 (.nat 8),fb 210,fb (ix (ex (gx 201 200 1) (c 0)) (ex (.rem (gx 201 200 0) (c 8)) (c 0)) (.lit false)),fb (nx (ix (ix (ex (gx 201 200 9) (c 5)) (.lit true) (.cmp .neq (gx 201 200 11) (c (-1)))) (.lit true) (.cmp .neq (gx 201 200 1) (c 0)))),lss 200 (.nat 8),leq (c 0) 8,leq 8 (c 64),rx 16 [101,102,104,105,106,107,108,109,110,111,112,8,7,5,6] [],rx 12 [8,101,104,105,112,7,102,147,115] [2],rx 13 [8,147,115] [2],eql 147 (c 0)],rx 12 [8,101,104,105,112,7,102,147,115] [237])]:=by
 repeat' (first|exact .nil|refine au ?_ ?_)
 all_goals(
  intro ρ h;simp only[vS,IE.den,BE.den,LE.den]at h⊢
  obtain⟨h0,h1,h2,h3,h4,h5,h6,h7,h8,h9,h10,h11,h12,h13,h14,h15,h16,h17⟩:=h
  have x0:=h3.1 (ρ.i 200).toNat (by omega)
  simp only[aC]at x0
  have h00:=h2 h8
  rw[h1]
  clear h4 h5 h14 h15 h16
  refine⟨fun a ha=>?_,fun a b ha hb=>?_⟩
  ·have x:=h3.1 a ha
   clear h3
   by_cases e:a=(ρ.i 200).toNat
   ·simp only[aC,ae,e,true_and,if_true,reduceIte,Nat.reduceEqDiff,and_false,if_false]at x⊢;grind
   ·simp only[aC,ae,e,false_and,if_false]at x⊢;exact x
  ·have x:=h3.2 a b ha hb
   clear h3
   simp only[ae];grind)
theorem xY:Pg.ok Tryz.prog:=ao (.cons Dj (.cons Ic .nil)) kf (a5t xO (a5t xP (a5t xQ (a5t xR (a5t xS (a5t xT xU)))))) [3,6,9,2,14,15,2,2,0,0,0,0,0,0,0,0,16,17,18,0,0,19,4,7,10,20,21,22,23,35,36,11,24,25,26,27,38,37,12,28,29,30,31,5,8,13,32,33,34,2,2,2,2] (by kernel_rfl)
theorem Id:ab [([fb (nx (lx 203 (c 0)))],leq (c 0) 203),
([],eql 14 14)]:=dS
theorem Ie:ab [([.imp (.lit true) (rx 22 [203,201] []),rx 23 [8,201] [2]],lss 203 (.nat 8)),
([.imp (.lit true) (rx 22 [203,201] []),rx 23 [8,201] [2],fb (nx (lx 203 (c 0)))],lss (.nat 203) (.nat 8)),
([.imp (.lit true) (rx 22 [203,201] []),rx 23 [8,201] [2],leq (c 0) 8],lss 203 8)]:=kj
theorem If:ab [([rx 27 [8,8,203] [207,2],.imp (.lit true) (rx 22 [203,201] []),rx 23 [8,201] [2],leq (c 0) 201,lss 201 (c 18446744073709551616),fb (nx (lx 203 (c 0))),leq (c 0) 8,leq 8 (c 64),rx 16 [101,102,104,105,106,107,108,109,110,111,112,8,7,5,6] [],rx 12 [8,101,104,105,112,7,102,147,115] [2],rx 13 [8,147,115] [2],eql 147 (c 2),eql 115 (c 2),rx 6 [8] [2],rx 25 [8] [2],rx 18 [7] [3],rx 7 [9,8] [9]],rx 12 [8,101,104,105,112,7,102,147,115] [(ux 207 203 9 (c 4))])]:=by
 repeat' (first|exact .nil|refine au ?_ ?_)
 all_goals(
  intro ρ;(intro h;simp only[vS,IE.den,BE.den,LE.den]at h⊢;revert h;(try simp only[and_imp]);intros);have hn:ρ.i 203<ρ.i 8:=by((simp only[vR,ae,eh]at*);grind)
  exact vr (l:=ρ.l 2) (by assumption) (by assumption) (by assumption) (by assumption) (by assumption) (by omega) hn)
theorem Ig:ab [([.imp 210 (fb (ix (jx (c 0) 209) (jx 209 (c 31)) (.lit false))),fb 210],leq (c 0) 209),
([.imp 210 (fb (ix (jx (c 0) 209) (jx 209 (c 31)) (.lit false))),fb 210],leq 209 (c 31))]:=s8
theorem Ih:ab [([leq (c 0) 8,leq 8 (c 64),rx 16 [101,102,104,105,106,107,108,109,110,111,112,8,7,5,6] [],rx 12 [8,101,104,105,112,7,102,147,115] [2],rx 13 [8,147,115] [2],eql 147 (c 2),eql 115 (c 2),rx 6 [8] [2],rx 25 [8] [2],rx 18 [7] [3],rx 7 [9,8] [9],rx 27 [8,8,203] [207,2],.imp (.lit true) (rx 22 [203,201] []),rx 23 [8,201] [2],leq (c 0) 201,lss 201 (c 18446744073709551616),lss 203 (c 0)],rx 12 [8,101,104,105,112,7,102,147,115] [207])]:=by
 repeat' (first|exact .nil|refine au ?_ ?_)
 all_goals(
  intro ρ h;simp only[vS,IE.den,BE.den,LE.den]at h⊢
  obtain⟨h0,h1,h2,h3,h4,h5,h6,h7,h8,h9,h10,h11,h12,h13,h14,h15,h16⟩:=h
  refine⟨fun a ha=>?_,fun a b ha hb=>?_⟩
  ·have x:=h3.1 a ha
   have y:=h11 a ha
   have z:=h8 a ha
   have u:=h7 a ha
   clear h3 h4 h7 h8 h11
   simp only[aC]at x⊢;grind
  ·have x:=h3.2 a b ha hb
   have y:=h11 a ha
   have z:=h11 b hb
   clear h3 h4 h7 h8 h11
   grind)
theorem Ii:ab [([rx 13 [8,147,115] [2],rx 27 [8,8,203] [207,2]],rx 13 [8,147,115] [207])]:=by
 repeat' (first|exact .nil|refine au ?_ ?_)
 all_goals(
  intro ρ h;simp only[vS,IE.den,BE.den,LE.den]at h⊢
  intro a ha
  try have:=h.1 a ha
  try have:=h.2 a ha
  clear h
  simp only[vR]at*
  grind)
theorem Ij:ab [([rx 27 [8,8,203] [207,2]],rx 14 [8] [2,207])]:=by
 repeat' (first|exact .nil|refine au ?_ ?_)
 all_goals(
  intro ρ h;simp only[vS,IE.den,BE.den,LE.den]at h⊢
  intro a ha
  try have:=h a ha
  skip
  simp only[vR]at*
  omega)
theorem Ik:ab [([leq (c 0) 8,leq 8 (c 64),rx 16 [101,102,104,105,106,107,108,109,110,111,112,8,7,5,6] [],rx 12 [8,101,104,105,112,7,102,147,115] [2],rx 13 [8,147,115] [2],eql 147 (c 2),eql 115 (c 2),rx 6 [8] [2],rx 25 [8] [2],rx 18 [7] [3],rx 7 [9,8] [9],.imp 229 (rx 26 [8,203,209] [230,(ux 207 203 9 (c 4))]),.imp (nx 229) (rx 28 [8] [230,(ux 207 203 9 (c 4))]),rx 18 [7] [231],rx 7 [237,8] [237],.imp 210 (fb (ix (jx (c 0) 209) (jx 209 (c 31)) (.lit false))),rx 27 [8,8,203] [207,2],.imp (.lit true) (rx 22 [203,201] []),rx 23 [8,201] [2],leq (c 0) 201,lss 201 (c 18446744073709551616),fb 210,fb (nx (lx 203 (c 0)))],rx 12 [8,101,104,105,112,7,102,147,115] [230])]:=by
 repeat' (first|exact .nil|refine au ?_ ?_)
 all_goals(
  intro ρ;(intro h;simp only[vS,IE.den,BE.den,LE.den]at h⊢;revert h;(try simp only[and_imp]);intros)
  have hn:ρ.i 203<ρ.i 8:=by((simp only[vL,ae,eh]at*);grind)
  have hU:=vr (l':=ρ.l 207) (l:=ρ.l 2) (F:=ρ.i 101) (S:=ρ.i 104) (W:=ρ.i 105) (Fu:=ρ.i 112) (nb:=ρ.i 7) (home:=ρ.i 102) (mode:=ρ.i 147) (at_:=ρ.i 115) (by assumption) (by assumption) (by assumption) (by assumption) (by assumption) (by omega) hn
  have hf:0≤ρ.i 209∧ρ.i 209≤31:=by grind
  have h4:ah (ρ.l 207) (ρ.i 203) 9 4 (ρ.i 203).toNat 9=4:=by simp[ae]
  by_cases hb:ρ.b 229=true
  ·exact Z0 ((by assumption:ρ.b 229=true→ac 23 [ρ.i 8,ρ.i 203,ρ.i 209] [ρ.l 230,ah (ρ.l 207) (ρ.i 203) 9 4]) hb) hU hf (by omega) h4
  ·exact Z2 ((by assumption:¬ρ.b 229=true→ac 25 [ρ.i 8] [ρ.l 230,ah (ρ.l 207) (ρ.i 203) 9 4]) hb) hU)
theorem Il:ab [([leq (c 0) 8,leq 8 (c 64),rx 16 [101,102,104,105,106,107,108,109,110,111,112,8,7,5,6] [],rx 12 [8,101,104,105,112,7,102,147,115] [2],rx 13 [8,147,115] [2],eql 147 (c 2),eql 115 (c 2),rx 6 [8] [2],rx 25 [8] [2],rx 18 [7] [3],rx 7 [9,8] [9],.imp 229 (rx 26 [8,203,209] [230,(ux 207 203 9 (c 4))]),.imp (nx 229) (rx 28 [8] [230,(ux 207 203 9 (c 4))]),rx 18 [7] [231],rx 7 [237,8] [237],.imp 210 (fb (ix (jx (c 0) 209) (jx 209 (c 31)) (.lit false))),rx 27 [8,8,203] [207,2],.imp (.lit true) (rx 22 [203,201] []),rx 23 [8,201] [2],leq (c 0) 201,lss 201 (c 18446744073709551616),fb 210,fb (nx (lx 203 (c 0)))],rx 13 [8,147,115] [230])]:=by
 repeat' (first|exact .nil|refine au ?_ ?_)
 all_goals(
  intro ρ;(intro h;simp only[vS,IE.den,BE.den,LE.den]at h⊢;revert h;(try simp only[and_imp]);intros)
  have hr:0≤ρ.i 203∧(ρ.l 2 (ρ.i 203).toNat 9=3∨ρ.l 2 (ρ.i 203).toNat 9=4)∧(ρ.l 2 (ρ.i 203).toNat 10=3∨ρ.l 2 (ρ.i 203).toNat 10=4):=by((simp only[vL,ae,eh]at*);grind)
  have hU:=I0 (l':=ρ.l 207) (l:=ρ.l 2) (mode:=ρ.i 147) (at_:=ρ.i 115) (by assumption) (by assumption) hr.1 hr.2.1 hr.2.2
  by_cases hb:ρ.b 229=true
  ·exact PK ((by assumption:ρ.b 229=true→ac 23 [ρ.i 8,ρ.i 203,ρ.i 209] [ρ.l 230,ah (ρ.l 207) (ρ.i 203) 9 4]) hb) hU
  ·exact PL ((by assumption:¬ρ.b 229=true→ac 25 [ρ.i 8] [ρ.l 230,ah (ρ.l 207) (ρ.i 203) 9 4]) hb) hU)
theorem Im:ab [([leq (c 0) 8,leq 8 (c 64),eql 147 (c 2),eql 115 (c 2),rx 6 [8] [2],rx 25 [8] [2],rx 18 [7] [3],rx 7 [9,8] [9],.imp 229 (rx 26 [8,203,209] [230,(ux 207 203 9 (c 4))]),.imp (nx 229) (rx 28 [8] [230,(ux 207 203 9 (c 4))]),rx 18 [7] [231],rx 7 [237,8] [237],.imp 210 (fb (ix (jx (c 0) 209) (jx 209 (c 31)) (.lit false))),rx 27 [8,8,203] [207,2],.imp (.lit true) (rx 22 [203,201] []),rx 23 [8,201] [2],leq (c 0) 201,lss 201 (c 18446744073709551616),fb 210,fb (nx (lx 203 (c 0)))],rx 14 [8] [2,230])]:=by
 repeat' (first|exact .nil|refine au ?_ ?_)
 all_goals(
  intro ρ;(intro h;simp only[vS,IE.den,BE.den,LE.den]at h⊢;revert h;(try simp only[and_imp]);intros)
  have hU:=PJ (l':=ρ.l 207) (l:=ρ.l 2) (n:=ρ.i 8) (i:=ρ.i 203) (by assumption)
  by_cases hb:ρ.b 229=true
  ·exact Z1 ((by assumption:ρ.b 229=true→ac 23 [ρ.i 8,ρ.i 203,ρ.i 209] [ρ.l 230,ah (ρ.l 207) (ρ.i 203) 9 4]) hb) hU
  ·exact Z3 ((by assumption:¬ρ.b 229=true→ac 25 [ρ.i 8] [ρ.l 230,ah (ρ.l 207) (ρ.i 203) 9 4]) hb) hU)
theorem Dk:ab [([leq (c 0) 8,leq 8 (c 64),rx 16 [101,102,104,105,106,107,108,109,110,111,112,8,7,5,6] [],rx 12 [8,101,104,105,112,7,102,147,115] [2],rx 13 [8,147,115] [2],eql 147 (c 2),eql 115 (c 2),rx 6 [8] [2],rx 25 [8] [2],rx 18 [7] [3],rx 7 [9,8] [9],rx 27 [8,8,203] [207,2],.imp (.lit true) (rx 22 [203,201] []),rx 23 [8,201] [2],leq (c 0) 201,lss 201 (c 18446744073709551616),fb (nx (lx 203 (c 0)))],rx 13 [8,147,115] [(ux 207 203 9 (c 4))])]:=by
 repeat' (first|exact .nil|refine au ?_ ?_)
 all_goals(
  intro ρ h;simp only[vS,IE.den,BE.den,LE.den]at h⊢
  obtain⟨h0,h1,h2,h3,h4,h5,h6,h7,h8,h9,h10,h11,h12,h13,h14,h15,h16⟩:=h
  have r:=h13.2 (ρ.i 203).toNat
  intro a ha
  have x:=h4 a ha
  have y:=h11 a ha
  have u:=h7 a ha
  have z:=h8 a ha
  simp only[vR]at h12
  clear h3 h4 h7 h8 h11 h13 h10 h9 h2
  by_cases e:a=(ρ.i 203).toNat
  ·simp only[fR,ae,e,true_and,if_true,reduceIte,and_false,if_false,Nat.reduceEqDiff]at x y u z⊢;grind
  ·simp only[fR,ae,e,false_and,if_false]at x y u z⊢;grind)
theorem Dl:ab [([rx 27 [8,8,203] [207,2]],rx 14 [8] [2,(ux 207 203 9 (c 4))])]:=by
 repeat' (first|exact .nil|refine au ?_ ?_)
 all_goals(
  intro ρ h;simp only[vS,IE.den,BE.den,LE.den]at h⊢
  intro a ha
  try have:=h a ha
  try have:=h (ρ.i 203).toNat (by omega)
  by_cases e:a=(ρ.i 203).toNat
  ·subst e
   skip
   simp only[vR,ae,true_and,if_true,and_false,false_and,if_false,reduceIte,Nat.reduceEqDiff]at*
   omega
  ·skip
   simp only[vR,ae,e,false_and,if_false]at*
   omega)
theorem Io:a7a.ok Tryz.prog:=ao (.cons vA (.cons xM (.cons vB (.cons Dj (.cons qT .nil))))) kf (a5t Id (a5t Ie (a5t If (a5t Ig (a5t Ih (a5t Ii (a5t Ij (a5t Ik (a5t Il (a5t Im (a5t Dk Dl))))))))))) [3,5,6,6,8,3,7,8,3,7,9,10,11,12,13,2,2,4,14,15,16,2,2,2,8,17,18,2,2,2] (by kernel_rfl)
def inS:SV:=.agg [.b (.var 160),.b (.var 161),iv 162,iq 163,.lst 16]
def uo:aO×aY:=bJ 0 [ki,ki,ki] 16 16
def XZ(p a:IE):List F:=[.imp (.cmp .eql p (c 2)) (eql a (c 2)),.imp (.cmp .eql p (c 1)) (eql a (c 1))]
def af0:bg:={f:=32,M:=200,args:=[W,inS],H0:=[wH [],aT 2,bq 3,CV,qQ,bJ 3 [ki] 6 6,bx 9 9,cI 14 14,bJ 56 [ki,ki,ki,ki,ki,ki,ki] 5 5,uo,XS,g2H],pre:=base++XZ (v 148) (v 115)++[ff 3,fG 9]++bc 14,N:=250,t:=.lf ⟨ly 202++[ff 203,fG 209,eql (v 214) (v 14),.imp (.not (.cmp .eql (v 147) (c 2))) (eql (v 209) (v 9)),.imp (.cmp .eql (v 147) (c 1)) (.rel Nk [v 8] [.var 202,.var 2])],[],.tup [],[wH (CW++CX++[(45,iw 245),(46,.lst 214)]),aT 202,bq 203,bx 209 209,cI 214 214]⟩}
def b0:BE:=.lit true
def c6(a b:BE):BE:=.ite a b (.lit false)
def orB(a b:BE):BE:=.ite a (.lit true) b
def fe(a b:IE):BE:=.cmp .eql a b
def BI(a b:IE):BE:=.cmp .neq a b
def fAt(a:Nat):List F:=[leq (c 0) (v a),leq (v a) (c 2)]
def acj:bg:={f:=36,M:=200,args:=[W,inS],H0:=[wH [],aT 2,qQ,uo],pre:=fN++[gN,iU 2 (v 147) (v 115)]++fAt 115,N:=250,t:=.lf ⟨fAt 215++[.imp (c6 (BI (v 215) (v 115)) (BI (v 115) (c 0))) (.rel ka [v 8] [.var 2]),.imp (c6 (fe (v 115) (c 1)) (.var 128)) (eql (v 215) (c 1)),.imp (c6 (fe (v 115) (c 2)) (c6 (.not (.var 128)) (.var 161))) (eql (v 215) (c 2)),.imp (c6 (fe (v 115) (c 0)) (c6 (fe (v 116) (c 2)) (fe (v 117) (c 1)))) (eql (v 215) (c 2)),.imp (c6 (c6 (fe (v 115) (c 1)) (fe (v 108) (c 1))) (c6 (.not (.var 128)) (.var 161))) (.imp (BI (v 215) (c 0)) (.rel XM [v 8] [.var 2])),.imp (c6 (c6 (fe (v 115) (c 1)) (fe (v 108) (c 1))) (c6 (.not (.var 128)) (.var 161))) (.imp (fe (v 215) (c 0)) (.be (c6 (fe (v 216) (c 2)) (fe (v 217) (c 1)))))],[],.tup [],[wH [(15,iv 215),(16,iv 216),(17,iv 217)]]⟩}
def ack:bg:={f:=53,M:=10,args:=[.agg [iv 1,iv 2,iv 3],.b (.var 4),.b (.var 5)],H0:=[],pre:=[],N:=12,t:=.lf ⟨[.imp (fe (v 11) (c 2)) (eql (v 1) (c 2)),.imp (fe (v 11) (c 1)) (eql (v 1) (c 1))],[],iv 11,[]⟩}
def acl:bg:={f:=55,M:=10,args:=[.agg [.b (.var 1),iv 2],.b (.var 3),iv 4],H0:=[],pre:=[],N:=14,t:=.lf ⟨[.imp (c6 (.var 3) (.var 1)) (.be (c6 (.var 11) (fe (v 12) (c 0)))),.imp (c6 (c6 (.not (.var 3)) (.var 1)) (c6 (fe (v 2) (c 0)) (fe (v 4) (c 2)))) (.be (c6 (.var 11) (fe (v 12) (c 1)))),.imp (c6 (c6 (.not (.var 3)) (.var 1)) (c6 (fe (v 2) (c 1)) (fe (v 4) (c 2)))) (.be (.not (.var 11))),.imp (c6 (.not (.var 3)) (.not (.var 1))) (.be (.not (.var 11)))],[],.tup [.agg [.b (.var 11),iv 12],.b (.var 13)],[]⟩}
def Y0(a:Nat):List SV:=(List.range 8).map fun i=>iv (a+i)
def af1:bg:={f:=54,M:=40,args:=[.agg (iv 20::Y0 21),iv 30],H0:=[],pre:=[leq (c 0) (v 20),leq (v 20) (c 8)],N:=50,t:=.lf ⟨[],[],.tup [.agg (iv 20::Y0 41),iv 49],[]⟩}
def Np:List (Nat×SV):=(List.range 8).map fun i=>(19+i,iv (219+i))
def af2:List F:=[leq (c 0) (v 118),leq (v 118) (c 8)]
def acm:bg:={f:=29,M:=200,args:=[W,inS],H0:=[wH [],aT 2,qQ,bJ 56 [ki,ki,ki,ki,ki,ki,ki] 5 5,uo],pre:=base++af2,N:=260,t:=.lf ⟨[iU 202 (v 247) (v 115),XT 202 (v 247) (v 115),a75 2 202]++XZ (v 248) (v 115)++[.imp (fe (v 247) (c 0)) (.imp (BI (v 147) (c 0)) (.rel ka [v 8] [.var 202])),.imp (c6 (.var 160) (.var 128)) (.be (c6 (.var 228) (fe (v 229) (c 0)))),.imp (c6 (c6 (.not (.var 160)) (.var 128)) (c6 (fe (v 129) (c 0)) (fe (v 107) (c 2)))) (.be (c6 (.var 228) (fe (v 229) (c 1)))),.imp (c6 (c6 (.not (.var 160)) (.var 128)) (c6 (fe (v 129) (c 1)) (fe (v 107) (c 2)))) (.be (.not (.var 228))),.imp (c6 (.not (.var 160)) (.not (.var 128))) (.be (.not (.var 228))),.imp (c6 (fe (v 147) (c 0)) (.var 228)) (eql (v 247) (c 0)),.imp (c6 (fe (v 147) (c 0)) (.not (.var 228))) (eql (v 247) (c 1)),.imp (c6 (fe (v 147) (c 0)) (.not (.var 228))) (.rel ka [v 8] [.var 202]),.imp (c6 (fe (v 147) (c 1)) (fe (v 115) (c 2))) (eql (v 247) (c 2)),.imp (c6 (c6 (fe (v 147) (c 1)) (BI (v 115) (c 2))) (.not (.var 228))) (eql (v 247) (c 1)),.imp (c6 (fe (v 147) (c 2)) (.not (.var 228))) (eql (v 247) (c 2))],[],.tup [],[wH (Np++[(27,iv 227),(28,.b (.var 228)),(29,iv 229),(43,iv 243),(44,iv 244),(47,iv 247),(48,iv 248)]),aT 202]⟩}
def acn:bg:={f:=30,M:=200,args:=[W,inS],H0:=[wH [],aT 2,qQ,bx 9 9,uo],pre:=fN++[fG 9,leq (c 0) (v 9),leq (v 9) (c 1000000)],N:=260,t:=.lf ⟨[fG 209,.rel aaj [v 8,v 209] [.var 2,.var 209],leq (c 0) (v 209),leq (v 209) (v 9)],[],.tup [],[wH CW,bx 209 209]⟩}
def af3:bg:={f:=31,M:=200,args:=[W,inS],H0:=[wH [],aT 2,qQ,bx 9 9,uo],pre:=base++[fG 9,leq (c 0) (v 9),leq (v 9) (c 1000000),.imp (fe (v 147) (c 0)) (eql (v 9) (c 0))],N:=260,t:=.lf ⟨ly 202++[fG 209,.rel Nl [v 8] [.var 202,.var 2],leq (c 0) (v 209),leq (v 209) (v 9),.imp (BI (v 148) (c 2)) (eql (v 209) (c 0))],[],.tup [],[wH CW,aT 202,bx 209 209]⟩}
def eW:cj:=fun f r b=>
 bif Nat.beq f 30&&Nat.beq r 2 then some {items:=fun _=>[.ri 11,.ci 1 30,.ci 1 31,.ci 1 32,.cl 1 33 false 153 [ki,ki]],inv:=[.rel ee (fun n=>[v (n+4),v 8]) (fun n=>[.var (n+4)]),.rel aaj (fun n=>[v n,v (n+4)]) (fun n=>[.var 2,.var (n+4)]),.be fun n=> .cmp .leq (c 0) (v (n+4)),.be fun n=> .cmp .leq (v (n+4)) (v 9)]++co (bu b 10),mes:=fun n=> .sub (bu b 10) (v n)}
 else bif Nat.beq f 31&&Nat.beq r 7 then some {items:=fun _=>[.ri 38,.rl 6 true 3 [ki]],inv:=[.rel Hx (fun n=>[v (n+1),v 8]) (fun n=>[.var (n+1)]),.be fun n=> .cmp .leq (c 0) (v (n+1)),.be fun n=> .cmp .leq (v (n+1)) (.add (lr b (fV b 6)) (v n))]++co (bu b 37),mes:=fun n=> .sub (bu b 37) (v n)}
 else bif Nat.beq f 31&&Nat.beq r 14 then some {items:=fun _=>[.ri 55,.fm 2],inv:=[.rel un (fun _=>[v 8,v 101,v 104,v 105,v 112,v 7,v 102,v 147,v 115]) (fun n=>[.var (n+1)]),.rel Nj (fun _=>[v 8,v 147,v 115]) (fun n=>[.var (n+1)]),.rel a72 (fun _=>[v 8]) (fun n=>[.var 2,.var (n+1)]),.rel Nl (fun _=>[v 8]) (fun n=>[.var (n+1),.var 2])]++co (bu b 54),mes:=fun n=> .sub (bu b 54) (v n)}
 else kf f r b
def ah4:bg:={f:=56,M:=200,args:=[W,.fn (.func 37) [W] []],H0:=[wH [],aT 2,qQ,bJ 56 [ki,ki,ki,ki,ki,ki,ki] 5 5],pre:=fN++[gN,iU 2 (v 147) (v 115)],N:=202,t:=.lf ⟨[],[],.b (.var 201),[]⟩}
def tH:aO×aY:=bJ 56 [ki,ki,ki,ki,ki,ki,ki] 5 5
def aao(l i:Nat):IE:=.get (.var l) (v i) 11
def af4:bg:={f:=128,M:=200,args:=[W,iv 150],H0:=[wH [],aT 2,qQ,bx 9 9],pre:=fN++[leq (c 0) (v 150),lss (v 150) (v 8)]++bc 9,N:=202,t:=.lf ⟨[.imp (.var 201) (.be (c6 (BI (aao 2 150) (c (-1))) (BI (v 148) (c 0))))],[],.b (.var 201),[]⟩}
def Ph:bg:={f:=176,M:=10,args:=[.agg [iv 1,iv 2,iv 3],iv 4,iv 5,.b (.var 6)],H0:=[],pre:=[leq (c 1) (v 5),leq (v 5) (c 8),leq (.sub (c 0) (v 5)) (v 2),leq (v 2) (v 5)],N:=13,t:=.lf ⟨[leq (.sub (c 0) (v 5)) (v 11),leq (v 11) (v 5)],[],.tup [iv 11,.b (.var 12)],[]⟩}
def Pi:bg:={f:=130,M:=10,args:=[.agg [iv 1,iv 2,iv 3],.agg [iv 4,iv 5],.b (.var 6),.b (.var 7)],H0:=[],pre:=[],N:=13,t:=.lf ⟨[leq (c 0) (v 11),leq (v 11) (c 2)],[],iv 11,[]⟩}
def Pj:bg:={f:=67,M:=10,args:=[.agg [iv 1,iv 2,iv 3],.agg [iv 4,iv 5],iv 6,.b (.var 7),iv 9],H0:=[],pre:=[],N:=14,t:=.lf ⟨[.imp (BI (v 4) (c 0)) (.be (.var 12)),.imp (.not (.var 12)) (.be (.not (.var 7))),.be (orB (fe (v 11) (v 6)) (fe (v 11) (c 0))),.imp (fe (v 13) (c 1)) (.be (c6 (.var 12) (c6 (fe (v 2) (c 0)) (fe (.rem (v 1) (c 8)) (c 0)))))],[],.tup [iv 11,.b (.var 12),iv 13],[]⟩}
def HI:bg:={f:=68,M:=10,args:=[.agg [iv 1,iv 2,iv 3],iv 4,.b (.var 5)],H0:=[],pre:=[],N:=12,t:=.lf ⟨[],[],iv 11,[]⟩}
def Y1:bg:={f:=69,M:=10,args:=[.agg [iv 1,iv 2,iv 3],iv 4,.b (.var 5),iv 6],H0:=[],pre:=[leq (c 2) (v 6),leq (v 6) (c 32),leq (c 0) (v 1),leq (v 1) (.mul (.sub (v 6) (c 1)) (c 8)),leq (c (-8)) (v 2),leq (v 2) (c 8),leq (c (-8)) (v 4),leq (v 4) (c 8)],N:=14,t:=.lf ⟨[leq (c 0) (v 11),leq (v 11) (.mul (.sub (v 6) (c 1)) (c 8)),.imp (.var 5) (.be (c6 (fe (v 11) (v 1)) (fe (v 12) (c 0)))),.imp (BI (v 12) (c 0)) (.be (c6 (c6 (.cmp .leq (v 12) (.add (v 2) (c 1))) (.cmp .leq (.sub (v 2) (c 1)) (v 12))) (c6 (fe (v 11) (.add (v 1) (v 12))) (c6 (.cmp .leq (.mn (v 4) (v 2)) (v 12)) (.cmp .leq (v 12) (.mx (v 4) (v 2)))))))],[],.agg [iv 11,iv 12,iv 3],[]⟩}
def Pk:bg:={f:=70,M:=10,args:=[.agg [iv 1,iv 2],iv 3,.b (.var 4)],H0:=[],pre:=[leq (c 0) (v 1),leq (v 1) (v 2),leq (v 2) (c 16)],N:=12,t:=.lf ⟨[leq (c 0) (v 11),leq (v 11) (v 2),leq (.sub (v 1) (c 1)) (v 11),leq (v 11) (.add (v 1) (c 1)),.imp (BI (v 3) (c 1)) (leq (v 11) (v 1))],[],.agg [iv 11,iv 2],[]⟩}
def Pm:bg:={f:=71,M:=10,args:=[.agg [iv 1,iv 2],.agg [iv 3,iv 4],.agg [iv 5,iv 6],iv 7],H0:=[],pre:=[],N:=13,t:=.lf ⟨[],[],.agg [iv 11,iv 12],[]⟩}
def af5:bg:={f:=72,M:=10,args:=[.agg [iv 1,iv 2,iv 3,iv 4,iv 5,iv 6],iv 7,iv 8,iv 9],H0:=[],pre:=[],N:=12,t:=.lf ⟨[],[],iv 11,[]⟩}
def af6:bg:={f:=74,M:=10,args:=[.agg [iv 1,iv 2],iv 3],H0:=[],pre:=[leq (c 0) (v 1),leq (v 1) (v 2),leq (v 2) (c 1048576),eql (v 3) (c 1)],N:=12,t:=.lf ⟨[leq (c 0) (v 11),leq (v 11) (v 2)],[],.agg [iv 11,iv 2],[]⟩}
def aco:SV:=.agg [iv 203,.b (.var 204),iv 205,.b (.var 206)]
def xp:List F:=[.rel aeh [v 8,v 150] [.var 202,.var 2],leq (.sub (c 0) (v 104)) (v 203),leq (v 203) (v 104)]
def acp(k:Nat):List F:=[leq (c 0) (v k),lss (v k) (v 8)]
def kg(l i:Nat):IE:=.get (.var l) (v i) 5
def af7:BE:=fe (kg 202 150) (.sub (kg 2 150) (v 111))
def af8:bg:={f:=129,M:=200,args:=[W,XW 150,.b (.var 151)],H0:=[wH [],aT 2],pre:=fN++[gN,iU 2 (v 147) (v 115)]++acp 150,N:=210,t:=.lf ⟨xp++[eql (kg 202 150) (kg 2 150)],[],aco,[aT 202]⟩}
def a7c:bg:={f:=131,M:=200,args:=[W,XW 150],H0:=[wH [],aT 2,tH],pre:=fN++[gN,iU 2 (v 147) (v 115),.imp (BI (.rem (.get (.var 2) (v 150) 0) (c 8)) (c 0)) (leq (v 111) (kg 2 150))]++acp 150,N:=210,t:=.lf ⟨xp++[.imp (.not (.var 204)) (.be af7),leq (c 0) (kg 202 150),leq (kg 202 150) (v 112)],[],aco,[aT 202]⟩}
def acq:bg:={f:=66,M:=200,args:=[W,iv 150,.b (.var 151)],H0:=[wH [],aT 2,qQ,tH,bx 9 9],pre:=fN++[gN,iU 2 (v 147) (v 115)]++acp 150++bc 9,N:=210,t:=.lf ⟨xp++[.imp (.not (.var 204)) (.be (orB (c6 (BI (aao 2 150) (c (-1))) (BI (v 148) (c 0))) (c6 af7 (BI (v 147) (c 0))))),leq (c 0) (kg 202 150),leq (kg 202 150) (v 112)],[],aco,[aT 202]⟩}
def Y2(l:List SV):aO×aY:=(.h 4,.row true (.cells 121 l))
def acr(k:Nat):bg:={f:=144,M:=200,args:=[.ptr (.at 4 k),iv 150],H0:=[ke 170],pre:=[],N:=201,t:=.lf ⟨[],[],.tup [],[Y2 ([iv 170,iv 171,iv 172].set k (iv 150))]⟩}
def acs:bg:={f:=145,M:=200,args:=[.ptr (.at 4 1)],H0:=[ke 170],pre:=[],N:=201,t:=.lf ⟨[],[],iv 171,[]⟩}
def af9:bg:={f:=146,M:=200,args:=[.ptr (.at 4 2),iv 150],H0:=[ke 170],pre:=[],N:=212,t:=.lf ⟨[],[],iv 210,[Y2 [iv 170,iv 171,iv 211]]⟩}
def HJ:bg:={f:=75,M:=200,args:=[.ptr (.at 4 0),.lst 17],H0:=[ke 170,bJ 3 [ki] 17 17],pre:=bc 17,N:=280,t:=.lf ⟨[],[],iv 201,[ke 270]⟩}
def cy:cj:=fun f r b=>
 bif Nat.beq f 75&&Nat.beq r 5 then some {items:=fun _=>[.ri 14,.rl 5 true 2 [ki]],inv:=(.be fun n=> .cmp .eql (v (n+1)) (v n))::co (bu b 13),mes:=fun n=> .sub (bu b 13) (v n)}
 else bif Nat.beq f 33&&Nat.beq r 3 then some {items:=fun _=>[.ri 21,.fm 2,.cl 1 50 true 3 [ki]],inv:=[.rel un (fun _=>[v 8,v 101,v 104,v 105,v 112,v 7,v 102,v 147,v 115]) (fun n=>[.var (n+1)]),.rel XN (fun n=>[v 8,v n,v 104,v 111,v 148]) (fun n=>[.var (n+1),.var 2]),.be fun n=> .cmp .leq (c 0) (v (n+2)),.be fun n=> .cmp .leq (v (n+2)) (v n)]++co (bu b 20),mes:=fun n=> .sub (bu b 20) (v n)}
 else eW f r b
def act:bg:={f:=33,M:=200,args:=[W,inS],H0:=[wH [],aT 2,qQ,tH,bx 9 9,ke 170,uo],pre:=fN++[gN,iU 2 (v 147) (v 115)]++bc 9,N:=300,t:=.lf ⟨[iU 202 (v 147) (v 115),.rel XN [v 8,v 8,v 104,v 111,v 148] [.var 202,.var 2],leq (c 0) (v 215),leq (v 215) (c 1000000)],[],.tup [],[wH [(50,.lst 215)],aT 202,ke 270,bJ 3 [ki] 215 215]⟩}
def afa:bg:={f:=34,M:=200,args:=[W,inS],H0:=[wH [],aT 2,qQ,cI 14 14,uo],pre:=fN++[gN,iU 2 (v 147) (v 115)]++bc 14,N:=260,t:=.lf ⟨[.rel XO [v 8,v 8] [.var 202,.var 2],eql (v 214) (v 14)],[],.tup [],[wH [(45,iw 245),(46,.lst 214)],aT 202,cI 214 214]⟩}
def Nq:cj:=fun f r b=>
 bif Nat.beq f 34&&Nat.beq r 2 then some {items:=fun _=>[.ri 11,.fm 2,.ci 1 45,.cl 1 46 false 72 [kw]],inv:=[.rel XO (fun n=>[v 8,v n]) (fun n=>[.var (n+1),.var 2]),.be fun n=> .cmp .eql (v (n+3)) (v 14)]++co (bu b 10),mes:=fun n=> .sub (bu b 10) (v n)}
 else cy f r b
def gW:aO×aY:=(.h 0,.row false (.glob 290 0 .u32 [0x00000000,0x1db71064,0x3b6e20c8,0x26d930ac,0x76dc4190,0x6b6b51f4,0x4db26158,0x5005713c,0xedb88320,0xf00f9344,0xd6d6a3e8,0xcb61b38c,0x9b64c2b0,0x86d3d2d4,0xa00ae278,0xbdbdf21c]))
def bA(l n:Nat)(own:Bool:=false):aO×aY:=bJ 5 [kb] l n own
def a7d:bg:={f:=79,M:=10,args:=[.lst 0,.lst 1],H0:=[bx 0 0,bx 1 1],pre:=bc 0++bc 1,N:=12,t:=.lf ⟨[],[],.b (.var 11),[]⟩}
def Y3:bg:={f:=219,M:=10,args:=[.lst 0,.lst 1],H0:=[bA 0 0,bA 1 1],pre:=bc 0++bc 1,N:=12,t:=.lf ⟨[],[],.b (.var 11),[]⟩}
def afb:bg:={f:=187,M:=10,args:=[.lst 1],H0:=[bA 1 1,gW],pre:=bc 1,N:=12,t:=.lf ⟨[eql (v 11) (.add (v 1) (c 4))],[],.lst 11,[bA 11 11 true]⟩}
def ah5:bg:={f:=152,M:=10,args:=[HB 2 1,iq 5],H0:=[bx 1 1,gW],pre:=[leq (c 0) (v 1),leq (v 1) (c 64)],N:=12,t:=.lf ⟨bc 11,[],.lst 11,[bA 11 11 true]⟩}
def ah6:bg:={f:=185,M:=10,args:=[.lst 1],H0:=[bA 1 1,gW],pre:=bc 1,N:=30,t:=.lf ⟨bc 11,[],.tup [.agg [iv 21,iv 22,iv 23,.lst 11],iq 24,iv 25],[bx 11 11]⟩}
def jS(a b n w:Nat):SV:=.agg [.lst a,.lst b,iv n,.lst w,.b (.var (n+1))]
def jH(a b w:Nat):af:=[bA a a,bA b b,bA w w]
def jF(a b n w:Nat):List F:=bc a++bc b++bc w++[leq (c 0) (v n),leq (v n) (c 1)]
def acu:bg:={f:=151,M:=50,args:=[jS 31 32 35 33],H0:=jH 31 32 33++[gW],pre:=jF 31 32 35 33,N:=80,t:=.lf ⟨bc 61,[],.tup [.agg [iv 71,iv 72,iv 73,.lst 61],iq 74,.b (.var 75)],[bx 61 61]⟩}
def acv:bg:={f:=80,M:=50,args:=[jS 31 32 35 33,.agg [iv 41,iv 42,iv 43,.lst 40]],H0:=jH 31 32 33++[bx 40 40,gW],pre:=jF 31 32 35 33++[leq (c 0) (v 40),leq (v 40) (c 64)],N:=80,t:=.lf ⟨jF 61 62 65 63,[],jS 61 62 65 63,jH 61 62 63⟩}
def afc:bg:={f:=106,M:=50,args:=[jS 31 32 35 33,iv 41],H0:=jH 31 32 33,pre:=jF 31 32 35 33,N:=80,t:=.lf ⟨jF 61 62 65 63,[],jS 61 62 65 63,jH 61 62 63⟩}
def ah7(l n:Nat)(own:Bool:=false):aO×aY:=bJ 191 [ki,ki] l n own
def acw:bg:={f:=108,M:=50,args:=[jS 31 32 35 33,.lst 40,iv 41],H0:=jH 31 32 33++[ah7 40 40,gW],pre:=jF 31 32 35 33++[.rel aej [v 40,v 8] [.var 40],leq (c 0) (v 8),leq (v 8) (c 64)],N:=80,t:=.lf ⟨[.rel ee [v 61,v 8] [.var 61]],[],.tup [.agg [iv 71,iv 72,iv 73,.lst 61],.lst 62],[bx 61 61,bJ 3 [ki] 62 62 true]⟩}
def afd:bg:={aeo with H0:=[bJ 153 [ki,ki] 0 0 true]}
def Nr(b:Br)(t:Nat):Nat:=match fV b t with|.map id=>id|_=>0
def rN:cj:=fun f r b=>
 bif (Nat.beq f 79||Nat.beq f 219)&&Nat.beq r 4 then some {items:=fun _=>[.ri 13],inv:=co (bu b 12),mes:=fun n=> .sub (bu b 12) (v n)}
 else bif Nat.beq f 208&&Nat.beq r 6 then some {items:=fun _=>[.ri 16,.ri 3],inv:=co (bu b 15),mes:=fun n=> .sub (bu b 15) (v n)}
 else bif Nat.beq f 152&&Nat.beq r 3 then some {items:=fun _=>[.ri 11,.rl 5 true 5 [kb]],inv:=[.be fun n=> .cmp .eql (v (n+1)) (.mul (c 8) (v n))]++co (bu b 10),mes:=fun n=> .sub (bu b 10) (v n)}
 else bif Nat.beq f 108&&Nat.beq r 7 then some {items:=fun b=>[.ri 33,.cl (eu b 11) 3 true 153 [ki,ki],.rl 14 true 3 [ki],.mw (Nr b 12)],inv:=[.rel ac8 (fun n=>[v (n+1),v n,v 40,v 8]) (fun n=>[.var (n+1),.var 40]),.be fun n=> .cmp .leq (c 0) (v (n+2)),.be fun n=> .cmp .leq (v (n+2)) (v n)]++co (bu b 32),mes:=fun n=> .sub (bu b 32) (v n)}
 else bif Nat.beq f 52&&Nat.beq r 4 then some {items:=fun _=>[.ri 23,.rl 5 true 191 [ki,ki],.fm 3],inv:=[.rel aej (fun n=>[v (n+1),v n]) (fun n=>[.var (n+1)]),.rel tG (fun _=>[v 7]) (fun n=>[.var (n+2)])]++co (bu b 22),mes:=fun n=> .sub (bu b 22) (v n)}
 else Nq f r b
def jW:af:=[bA 11 11,bA 12 12,bA 13 13]
def jch:List (Nat×SV):=[(38,.lst 211),(39,.lst 212),(40,iv 240),(41,.lst 213),(42,.b (.var 242))]
def jWF:List F:=jF 11 12 140 13
def a7e:List F:=jF 211 212 240 213
def a7f:bg:={f:=35,M:=200,args:=[W,inS],H0:=[wH [],bx 9 9,bx 10 10]++jW++[uo,gW],pre:=fN++jWF++bc 10++[leq (c 0) (v 9),leq (v 9) (c 64)],N:=260,t:=.lf ⟨a7e,[],.tup [],[wH jch,bA 211 211,bA 212 212,bA 213 213]⟩}
def ah9(k:Nat):F:=.be (BI (v k) (c 0))
def Y4:bg:={f:=52,M:=200,args:=[W,ev],H0:=[wH [],aT 2,bq 3,CV,qQ]++jW++[gW],pre:=base++[ff 3]++jWF,N:=300,t:=.lf ⟨[iU 202 (v 247) (v 115),XT 202 (v 247) (v 115),a75 2 202,ah9 247,ff 203,fG 209]++a7e,[],iv 201,[wH (CW++jch++CX++[(28,.b (.var 228)),(29,iv 229),(47,iv 247)]),aT 202,bq 203,bx 209 209,bA 211 211,bA 212 212,bA 213 213]⟩}
def agc:bg:={f:=202,M:=10,args:=[.lst 1],H0:=[bA 1 1,gW],pre:=bc 1,N:=14,t:=.lf ⟨bc 11,[],.tup [.lst 11,.b (.var 12)],[bA 11 11 true]⟩}
def Qf:bg:={f:=206,M:=10,args:=[HB 1 0],H0:=[bx 0 0],pre:=bc 0,N:=12,t:=.lf ⟨[],[],.b (.var 11),[]⟩}
def Ok(s:Nat):bg:={f:=204,M:=10,args:=[.int .i64 (c s),.lst 1],H0:=[bJ 5 [.int .u8] 1 1],pre:=bc 1++[eql (.rem (v 1) (c s)) (c 0)],N:=14,t:=.lf ⟨[eql (.mul (v 11) (c s)) (v 1)],[],.tup [.lst 11,iv 12],[bJ 43 [kq] 11 11]⟩}
def Zj:bg:=Ok 8
def Zk:bg:=Ok 4
def agd:bg:={f:=203,M:=10,args:=[.lst 1],H0:=[bA 1 1],pre:=bc 1,N:=16,t:=.lf ⟨bc 11,[],.tup [.lst 11,iv 13],[(.h 11,.row true (.lst 22 [.val 12] (v 11) (.var 11))),(.h 12,.row false (.sls 5 [.u8] (v 11) (.var 12)))]⟩}
def iW:cj:=fun f r b=>
 bif Nat.beq f 206&&Nat.beq r 2 then some {items:=fun _=>[.ri 9],inv:=co (bu b 8),mes:=fun n=> .sub (bu b 8) (v n),w:=2}
 else bif Nat.beq f 166&&Nat.beq r 2 then some {items:=fun _=>[.ri 8],inv:=co (bu b 7),mes:=fun n=> .sub (bu b 7) (v n)}
 else bif Nat.beq f 204&&Nat.beq r 10 then some {items:=fun _=>[.ri 27,.ri 8],inv:=co (bu b 26),mes:=fun n=> .sub (bu b 26) (v n)}
 else bif Nat.beq f 204&&Nat.beq r 7 then some {items:=fun b=>[.cl (eu b 6) 0 true 43 [kq]],inv:=[.be fun n=> .cmp .eql (v n) (v (n+1)),.be fun n=> .cmp .leq (c 0) (v n)],mes:=vn,w:=2}
 else bif Nat.beq f 203&&Nat.beq r 3 then some {items:=fun _=>[.rl 0 false 5 [kb],.sf 4 22 5 [.u8],.sg 4 22],inv:=[.be fun n=> .cmp .leq (c 0) (v n),.be fun n=> .cmp .leq (c 0) (v (n+2)),.be fun n=> .cmp .leq (.add (v n) (v (n+2))) (v 1)],mes:=fun n=>v n}
 else bif Nat.beq f 185&&Nat.beq r 17 then some {items:=fun b=>[.cl (eu b 11) 3 true 153 [ki,ki]],inv:=[.be fun n=> .cmp .eql (v n) (v (n+1)),.be fun n=> .cmp .leq (c 0) (v n)],mes:=vn,w:=2}
 else rN f r b
theorem Dn:ab [([eql 10 (c 0)],leq (c 0) 10),
([eql 10 (c 0)],leq 10 (.nat 0)),
([lss 10 (.nat 0),fb (nx (.cmp .neq (.nat 0) (.nat 1)))],lss 10 (.nat 1)),
([leq (c 0) 10,lss 10 (.nat 0),fb (nx (.cmp .neq (.nat 0) (.nat 1)))],lss (.nat 10) (.nat 1)),
([eql 11 (wx (.add 10 (c 1))),lss 10 (.nat 0),leq 0 (c 1000000)],lss (.nat (.sub (.nat 0) 11)) (.nat (.sub (.nat 0) 10))),
([eql 11 (wx (.add 10 (c 1))),leq (c 0) 10,lss 10 (.nat 0),leq 0 (c 1000000)],leq (c 0) 11),
([eql 11 (wx (.add 10 (c 1))),leq (c 0) 10,lss 10 (.nat 0)],leq 11 (.nat 0))]:=dS
theorem Do:Y3.ok Tryz.prog:=ao aS.nil rN Dn [3,4,2,2,0,2,5,6,7,8,9] (by kernel_rfl)
theorem Zl:ab [([eql 12 (c 0)],leq (c 0) 12),
([eql 12 (c 0)],leq 12 (.nat 1)),
([eql 16 (wx (.add 12 (c 1))),lss 12 (.nat 1),leq 1 (c 1000000)],lss (.nat (.sub (.nat 1) 16)) (.nat (.sub (.nat 1) 12))),
([eql 16 (wx (.add 12 (c 1))),leq (c 0) 12,leq 12 (.nat 1),leq 1 (c 1000000)],leq (c 0) 16),
([eql 16 (wx (.add 12 (c 1))),leq (c 0) 12,lss 12 (.nat 1)],leq 16 (.nat 1)),
([eql 10 1,leq 1 (c 1000000)],leq (.add (.nat 10) (c 4)) (c 4294967296)),
([eql 10 1,leq (c 0) 1],leq (c 0) 10),
([leq (c 0) 1,eql 10 1],eql (.add (.nat 10) (c 4)) (.add 1 (c 4)))]:=dS
theorem Zm:ab [([leq (c 0) 12,leq 12 (.nat 1),lss 12 (.nat 1),eql 10 1,rx 3 [1] [10,1],leq (c 0) 1,leq 1 (c 1000000)],leq (c 0) (.bits .and .u32 (.bits .xor .u32 13 (.wrap .u32 (.wrap .u8 (gx 1 12 0)))) (c 15)))]:=by
 repeat' (first|exact .nil|refine au ?_ ?_)
 all_goals(
  intro ρ;(intro h;simp only[vS,IE.den,BE.den,LE.den]at h⊢;revert h;(try simp only[and_imp]);intros)
  exact(Oa _).1)
theorem Zn:ab [([leq (c 0) 12,leq 12 (.nat 1),lss 12 (.nat 1),eql 10 1,rx 3 [1] [10,1],leq (c 0) 1,leq 1 (c 1000000)],lss (.bits .and .u32 (.bits .xor .u32 13 (.wrap .u32 (.wrap .u8 (gx 1 12 0)))) (c 15)) (c 16))]:=by
 repeat' (first|exact .nil|refine au ?_ ?_)
 all_goals(
  intro ρ;(intro h;simp only[vS,IE.den,BE.den,LE.den]at h⊢;revert h;(try simp only[and_imp]);intros)
  exact(Oa _).2)
theorem Zo:ab [([leq (c 0) 12,leq 12 (.nat 1),lss 12 (.nat 1),eql 10 1,rx 3 [1] [10,1],leq (c 0) 1,leq 1 (c 1000000)],leq (c 0) (.bits .and .u32 (.bits .xor .u32 (.shr .u32 (.bits .xor .u32 13 (.wrap .u32 (.wrap .u8 (gx 1 12 0)))) (c 4)) 14) (c 15)))]:=by
 repeat' (first|exact .nil|refine au ?_ ?_)
 all_goals(
  intro ρ;(intro h;simp only[vS,IE.den,BE.den,LE.den]at h⊢;revert h;(try simp only[and_imp]);intros)
  exact(Oa _).1)
theorem Zp:ab [([leq (c 0) 12,leq 12 (.nat 1),lss 12 (.nat 1),eql 10 1,rx 3 [1] [10,1],leq (c 0) 1,leq 1 (c 1000000)],lss (.bits .and .u32 (.bits .xor .u32 (.shr .u32 (.bits .xor .u32 13 (.wrap .u32 (.wrap .u8 (gx 1 12 0)))) (c 4)) 14) (c 15)) (c 16))]:=by
 repeat' (first|exact .nil|refine au ?_ ?_)
 all_goals(
  intro ρ;(intro h;simp only[vS,IE.den,BE.den,LE.den]at h⊢;revert h;(try simp only[and_imp]);intros)
  exact(Oa _).2)
theorem Dp:afb.ok Tryz.prog:=ao (.cons ns .nil) rN (a5t Zl (a5t Zm (a5t Zn (a5t Zo Zp)))) [0,0,3,4,2,2,0,11,12,11,12,13,14,13,14,5,6,7,0,0,0,0,0,0,0,0,0,0,8,9,10] (by kernel_rfl)
theorem Zq:ab [([fb (nx (lx (wx (.sub (.nat 1) (c 4))) (c 0)))],leq (c 0) (wx (.sub (.nat 1) (c 4)))),
([],leq (wx (.sub (.nat 1) (c 4))) (.nat 1)),
([fb (nx (lx (wx (.sub (.nat 1) (c 4))) (c 0)))],leq (c 0) (.sub (wx (.sub (.nat 1) (c 4))) (c 0))),
([leq 1 (c 1000000)],leq (.sub (wx (.sub (.nat 1) (c 4))) (c 0)) (c 1000000)),
([eql 12 (.add (.sub (wx (.sub (.nat 1) (c 4))) (c 0)) (c 4)),fb (nx (lx (wx (.sub (.nat 1) (c 4))) (c 0)))],leq (c 0) 12),
([eql 12 (.add (.sub (wx (.sub (.nat 1) (c 4))) (c 0)) (c 4)),leq 1 (c 1000000)],leq 12 (c 1000000)),
([leq 1 (c 1000000)],leq (.add (c 0) (.nat (.sub (wx (.sub (.nat 1) (c 4))) (c 0)))) (c 4294967296)),
([fb (nx (ix (lx (wx (.sub (.nat 1) (c 4))) (c 0)) (.lit true) (.lit false)))],leq (c 0) (wx (.sub (.nat 1) (c 4)))),
([],leq (wx (.sub (.nat 1) (c 4))) (.nat 1)),
([leq 1 (c 1000000)],leq (.add (c 0) (.nat (.sub (wx (.sub (.nat 1) (c 4))) (c 0)))) (c 4294967296)),
([],leq (c 0) (.add (c 0) (.nat (.sub (wx (.sub (.nat 1) (c 4))) (c 0))))),
([leq 1 (c 1000000)],leq (.add (c 0) (.nat (.sub (wx (.sub (.nat 1) (c 4))) (c 0)))) (c 1000000)),
([],leq (c 0) (.add (c 0) (.nat (.sub (wx (.sub (.nat 1) (c 4))) (c 0))))),
([lss (wx (.sub (.nat 1) (c 4))) (c 0)],leq (.add (c 0) (.nat (.sub (wx (.sub (.nat 1) (c 4))) (c 0)))) (c 1000000))]:=dS
theorem Zr:agc.ok Tryz.prog:=ao (.cons Dp (.cons Do .nil)) iW Zq [0,3,4,5,6,7,8,0,3,4,9,0,0,10,4,9,0,0,0,0,0,13,14,0,0,0,0,13,14] (by kernel_rfl)
theorem xZ:ab [([eql 11 (c 0)],leq (c 0) 11),
([eql 11 (c 0)],leq 11 (.nat 0)),
([eql 14 (c 0)],leq (c 0) 14),
([eql 14 (c 0)],leq 14 (.nat (.sub 11 (c 0)))),
([eql 16 (wx (.add 14 (c 1))),lss 14 (.nat (.sub 11 (c 0))),lss 11 (.nat 0),leq 0 (c 1000000)],lss (.nat (.sub (.nat (.sub 11 (c 0))) 16)) (.nat (.sub (.nat (.sub 11 (c 0))) 14))),
([eql 16 (wx (.add 14 (c 1))),leq (c 0) 14,leq 14 (.nat (.sub 11 (c 0))),lss 11 (.nat 0),leq 0 (c 1000000)],leq (c 0) 16),
([eql 16 (wx (.add 14 (c 1))),leq (c 0) 14,lss 14 (.nat (.sub 11 (c 0)))],leq 16 (.nat (.sub 11 (c 0)))),
([eql 5014 (wx (.add 11 (c 1))),lss 11 (.nat 0),leq 0 (c 1000000)],lss (.nat (.sub (.nat 0) 5014)) (.nat (.sub (.nat 0) 11))),
([leq (c 0) 14,fb (nx (ix (ix (.cmp .geq 14 (c 0)) (.lit true) (nx (ix (.cmp .geq (gx 0 11 0) (c 0)) (lx (gx 0 11 0) (c 64)) (.lit false)))) (.lit true) (nx (ix (.cmp .geq (gx 0 11 1) (c 0)) (jx (gx 0 11 1) (c 1048576)) (.lit false)))))],leq (c 0) 5014),
([eql 5014 (wx (.add 11 (c 1))),leq (c 0) 11,lss 11 (.nat 0)],leq 5014 (.nat 0)),
([eql 5015 (wx (.add 11 (c 1))),lss 11 (.nat 0),leq 0 (c 1000000)],lss (.nat (.sub (.nat 0) 5015)) (.nat (.sub (.nat 0) 11))),
([eql 5015 (wx (.add 11 (c 1))),leq (c 0) 11,leq 11 (.nat 0),leq 0 (c 1000000)],leq (c 0) 5015),
([eql 5015 (wx (.add 11 (c 1))),leq (c 0) 11,lss 11 (.nat 0)],leq 5015 (.nat 0))]:=dS
theorem y5:Qf.ok Tryz.prog:=ao (.cons xD .nil) iW xZ [3,4,2,2,0,0,2,2,5,6,2,2,0,7,8,9,10,11,12,13,14,15] (by kernel_rfl)
theorem Zs:ab [([leq 1 (c 1000000)],leq (.add (c 0) (.nat 1)) (c 4294967296)),
([eql 12 (c 0)],leq (c 0) 12),
([eql 14 (c 0)],leq (c 0) 14),
([eql 12 (c 0),eql 14 (c 0),leq (c 0) 1],leq (.add 12 14) 1),
([fb (.cmp .gtr (.nat 12) (c 0))],lss (c 0) (.nat 12)),
([fb (nx (lx (.nat 12) (c 2)))],lss (c 1) (.nat 12)),
([fb (nx (.cmp .gtr (wx (.add (wx (.add (c 2) (wx (.wrap .u8 (gx 12 (c 0) 0))))) (.shl .i64 (wx (.wrap .u8 (gx 12 (c 1) 0))) (c 8)))) (.nat 12)))],leq (wx (.add (wx (.add (c 2) (wx (.wrap .u8 (gx 12 (c 0) 0))))) (.shl .i64 (wx (.wrap .u8 (gx 12 (c 1) 0))) (c 8)))) (.nat 12)),
([leq (.add 12 14) 1,fb (.cmp .gtr (.nat 12) (c 0)),leq 1 (c 1000000)],leq (.add 14 (c 1)) (c 4294967296)),
([],eql 14 14),
([leq (c 0) 14,leq (.add 12 14) 1,fb (nx (.cmp .gtr (wx (.add (wx (.add (c 2) (wx (.wrap .u8 (gx 12 (c 0) 0))))) (.shl .i64 (wx (.wrap .u8 (gx 12 (c 1) 0))) (c 8)))) (.nat 12))),leq 1 (c 1000000)],leq (.sub (wx (.add (wx (.add (c 2) (wx (.wrap .u8 (gx 12 (c 0) 0))))) (.shl .i64 (wx (.wrap .u8 (gx 12 (c 1) 0))) (c 8)))) (c 2)) (c 1000000)),
([],leq (.nat 12) (.nat 12)),
([eql 20 (.sub (.nat 12) (wx (.add (wx (.add (c 2) (wx (.wrap .u8 (gx 12 (c 0) 0))))) (.shl .i64 (wx (.wrap .u8 (gx 12 (c 1) 0))) (c 8))))),fb (nx (.cmp .gtr (wx (.add (wx (.add (c 2) (wx (.wrap .u8 (gx 12 (c 0) 0))))) (.shl .i64 (wx (.wrap .u8 (gx 12 (c 1) 0))) (c 8)))) (.nat 12)))],leq (c 0) 20),
([eql 22 (.add 14 (c 1)),leq (c 0) 14],leq (c 0) 22),
([eql 5012 (.add (c 0) (.nat 1))],leq (c 0) 5012),
([eql 5014 (c 0)],leq (c 0) 5014),
([eql 5012 (.add (c 0) (.nat 1)),eql 5014 (c 0),leq (c 0) 1],leq (.add 5012 5014) 1),
([fb (.cmp .gtr (.nat 5012) (c 0))],lss (c 0) (.nat 5012)),
([fb (nx (lx (.nat 5012) (c 2)))],lss (c 1) (.nat 5012)),
([fb (nx (.cmp .gtr (wx (.add (wx (.add (c 2) (wx (.wrap .u8 (gx 5012 (c 0) 0))))) (.shl .i64 (wx (.wrap .u8 (gx 5012 (c 1) 0))) (c 8)))) (.nat 5012)))],leq (wx (.add (wx (.add (c 2) (wx (.wrap .u8 (gx 5012 (c 0) 0))))) (.shl .i64 (wx (.wrap .u8 (gx 5012 (c 1) 0))) (c 8)))) (.nat 5012)),
([leq (.add 5012 5014) 1,fb (.cmp .gtr (.nat 5012) (c 0)),leq 1 (c 1000000)],leq (.add 5014 (c 1)) (c 4294967296)),
([],eql 5014 5014),
([leq (c 0) 5014,leq (.add 5012 5014) 1,fb (nx (.cmp .gtr (wx (.add (wx (.add (c 2) (wx (.wrap .u8 (gx 5012 (c 0) 0))))) (.shl .i64 (wx (.wrap .u8 (gx 5012 (c 1) 0))) (c 8)))) (.nat 5012))),leq 1 (c 1000000)],leq (.sub (wx (.add (wx (.add (c 2) (wx (.wrap .u8 (gx 5012 (c 0) 0))))) (.shl .i64 (wx (.wrap .u8 (gx 5012 (c 1) 0))) (c 8)))) (c 2)) (c 1000000)),
([],leq (.nat 5012) (.nat 5012)),
([eql 5020 (.sub (.nat 5012) (wx (.add (wx (.add (c 2) (wx (.wrap .u8 (gx 5012 (c 0) 0))))) (.shl .i64 (wx (.wrap .u8 (gx 5012 (c 1) 0))) (c 8))))),fb (nx (.cmp .gtr (wx (.add (wx (.add (c 2) (wx (.wrap .u8 (gx 5012 (c 0) 0))))) (.shl .i64 (wx (.wrap .u8 (gx 5012 (c 1) 0))) (c 8)))) (.nat 5012)))],leq (c 0) 5020),
([eql 5022 (.add 5014 (c 1)),leq (c 0) 5014],leq (c 0) 5022),
([leq 1 (c 1000000),leq (c 0) 12,leq (.add 12 14) 1],leq 14 (c 1000000)),
([leq 1 (c 1000000),leq (c 0) 5012,leq (.add 5012 5014) 1],leq 5014 (c 1000000))]:=dS
theorem Zt:ab [([leq (c 0) 14,leq (.add 12 14) 1,.imp (nx 1) (leq 1 (c 0)),fb (.cmp .gtr (.nat 12) (c 0)),fb (nx 1)],leq (c 2) (wx (.add (wx (.add (c 2) (wx (.wrap .u8 (gx 12 (c 0) 0))))) (.shl .i64 (wx (.wrap .u8 (gx 12 (c 1) 0))) (c 8))))),
([leq (c 0) 14,leq (.add 12 14) 1,.imp (nx 1) (leq 1 (c 0)),fb (.cmp .gtr (.nat 12) (c 0)),fb (nx 1)],leq (c 0) (wx (.add (wx (.add (c 2) (wx (.wrap .u8 (gx 12 (c 0) 0))))) (.shl .i64 (wx (.wrap .u8 (gx 12 (c 1) 0))) (c 8))))),
([leq (c 0) 14,leq (.add 12 14) 1,.imp (nx 1) (leq 1 (c 0)),fb (.cmp .gtr (.nat 12) (c 0)),fb (nx 1)],lss (.nat 20) (.nat 12)),
([leq (c 0) 14,leq (.add 12 14) 1,.imp (nx 1) (leq 1 (c 0)),fb (.cmp .gtr (.nat 12) (c 0)),fb (nx 1)],leq (.add 20 22) 1)]:=s8
theorem Zu:ab [([leq (c 0) 5012,leq (c 0) 5014,leq (.add 5012 5014) 1,.imp (nx 1) (leq 1 (c 0)),fb (nx (.cmp .gtr (wx (.add (wx (.add (c 2) (wx (.wrap .u8 (gx 5012 (c 0) 0))))) (.shl .i64 (wx (.wrap .u8 (gx 5012 (c 1) 0))) (c 8)))) (.nat 5012))),fb (nx (lx (.nat 5012) (c 2))),fb (.cmp .gtr (.nat 5012) (c 0)),fb 1,leq (c 0) 1,leq 1 (c 1000000)],leq (c 2) (wx (.add (wx (.add (c 2) (wx (.wrap .u8 (gx 5012 (c 0) 0))))) (.shl .i64 (wx (.wrap .u8 (gx 5012 (c 1) 0))) (c 8)))))]:=by
 repeat' (first|exact .nil|refine au ?_ ?_)
 all_goals(
  intro ρ;(intro h;simp only[vS,IE.den,BE.den,LE.den]at h⊢;revert h;(try simp only[and_imp]);intros)
  simp only[rZ]at*
  have h1:=dN (ρ.l 5012 0 0)
  have h2:=dN (ρ.l 5012 1 0)
  first|omega|grind)
theorem Zv:ab [([rx 2 [(c 2)] [5012,5015],leq (c 0) 5012,leq (c 0) 5014,leq (.add 5012 5014) 1,.imp (nx 1) (leq 1 (c 0)),fb (nx (.cmp .gtr (wx (.add (wx (.add (c 2) (wx (.wrap .u8 (gx 5012 (c 0) 0))))) (.shl .i64 (wx (.wrap .u8 (gx 5012 (c 1) 0))) (c 8)))) (.nat 5012))),fb (nx (lx (.nat 5012) (c 2))),fb (.cmp .gtr (.nat 5012) (c 0)),fb 1,leq (c 0) 1,leq 1 (c 1000000)],leq (c 0) (wx (.add (wx (.add (c 2) (wx (.wrap .u8 (gx 5012 (c 0) 0))))) (.shl .i64 (wx (.wrap .u8 (gx 5012 (c 1) 0))) (c 8)))))]:=by
 repeat' (first|exact .nil|refine au ?_ ?_)
 all_goals(
  intro ρ;(intro h;simp only[vS,IE.den,BE.den,LE.den]at h⊢;revert h;(try simp only[and_imp]);intros)
  simp only[rZ]at*
  have h1:=dN (ρ.l 5012 0 0)
  have h2:=dN (ρ.l 5012 1 0)
  first|omega|grind)
theorem Zw:ab [([eql 5020 (.sub (.nat 5012) (wx (.add (wx (.add (c 2) (wx (.wrap .u8 (gx 5012 (c 0) 0))))) (.shl .i64 (wx (.wrap .u8 (gx 5012 (c 1) 0))) (c 8))))),rx 0 [] [5020,5019],rx 0 [] [5021,(ux 5013 5014 0 (.nat (.sub (wx (.add (wx (.add (c 2) (wx (.wrap .u8 (gx 5012 (c 0) 0))))) (.shl .i64 (wx (.wrap .u8 (gx 5012 (c 1) 0))) (c 8)))) (c 2))))],eql 5022 (.add 5014 (c 1)),rx 2 [(wx (.add (wx (.add (c 2) (wx (.wrap .u8 (gx 5012 (c 0) 0))))) (.shl .i64 (wx (.wrap .u8 (gx 5012 (c 1) 0))) (c 8))))] [5012,5019],rx 2 [(c 2)] [5012,5015],leq (c 0) 5012,leq (c 0) 5014,leq (.add 5012 5014) 1,.imp (nx 1) (leq 1 (c 0)),fb (nx (.cmp .gtr (wx (.add (wx (.add (c 2) (wx (.wrap .u8 (gx 5012 (c 0) 0))))) (.shl .i64 (wx (.wrap .u8 (gx 5012 (c 1) 0))) (c 8)))) (.nat 5012))),fb (nx (lx (.nat 5012) (c 2))),fb (.cmp .gtr (.nat 5012) (c 0)),fb 1,leq (c 0) 1,leq 1 (c 1000000)],lss (.nat 5020) (.nat 5012))]:=by
 repeat' (first|exact .nil|refine au ?_ ?_)
 all_goals(
  intro ρ;(intro h;simp only[vS,IE.den,BE.den,LE.den]at h⊢;revert h;(try simp only[and_imp]);intros)
  simp only[rZ]at*
  have h1:=dN (ρ.l 5012 0 0)
  have h2:=dN (ρ.l 5012 1 0)
  first|omega|grind)
theorem Zx:ab [([eql 5020 (.sub (.nat 5012) (wx (.add (wx (.add (c 2) (wx (.wrap .u8 (gx 5012 (c 0) 0))))) (.shl .i64 (wx (.wrap .u8 (gx 5012 (c 1) 0))) (c 8))))),rx 0 [] [5020,5019],rx 0 [] [5021,(ux 5013 5014 0 (.nat (.sub (wx (.add (wx (.add (c 2) (wx (.wrap .u8 (gx 5012 (c 0) 0))))) (.shl .i64 (wx (.wrap .u8 (gx 5012 (c 1) 0))) (c 8)))) (c 2))))],eql 5022 (.add 5014 (c 1)),rx 2 [(wx (.add (wx (.add (c 2) (wx (.wrap .u8 (gx 5012 (c 0) 0))))) (.shl .i64 (wx (.wrap .u8 (gx 5012 (c 1) 0))) (c 8))))] [5012,5019],rx 2 [(c 2)] [5012,5015],leq (c 0) 5012,leq (c 0) 5014,leq (.add 5012 5014) 1,.imp (nx 1) (leq 1 (c 0)),fb (nx (.cmp .gtr (wx (.add (wx (.add (c 2) (wx (.wrap .u8 (gx 5012 (c 0) 0))))) (.shl .i64 (wx (.wrap .u8 (gx 5012 (c 1) 0))) (c 8)))) (.nat 5012))),fb (nx (lx (.nat 5012) (c 2))),fb (.cmp .gtr (.nat 5012) (c 0)),fb 1,leq (c 0) 1,leq 1 (c 1000000)],leq (.add 5020 5022) 1)]:=by
 repeat' (first|exact .nil|refine au ?_ ?_)
 all_goals(
  intro ρ;(intro h;simp only[vS,IE.den,BE.den,LE.den]at h⊢;revert h;(try simp only[and_imp]);intros)
  simp only[rZ]at*
  have h1:=dN (ρ.l 5012 0 0)
  have h2:=dN (ρ.l 5012 1 0)
  first|omega|grind)
theorem Zy:agd.ok Tryz.prog:=ao aS.nil iW (a5t Zs (a5t Zt (a5t Zu (a5t Zv (a5t Zw Zx))))) [3,0,4,5,6,0,7,7,0,8,8,0,30,9,10,2,11,12,31,9,13,32,14,15,33,16,17,18,0,19,19,0,20,20,0,34,21,22,2,23,24,35,21,25,36,26,27,37,0,0,0,0,2,28,0,0,0,0,2,29] (by kernel_rfl)
theorem Qg:acs.ok Tryz.prog:=ao aS.nil iW .nil [] (by kernel_rfl)
theorem Zz:af9.ok Tryz.prog:=ao aS.nil iW .nil [] (by kernel_rfl)
theorem vC(k:Nat)(hk:k=0∨k=1):(acr k).ok Tryz.prog:=by
 rcases hk with rfl|rfl
 ·exact ao aS.nil iW (.nil) [] (by kernel_rfl)
 ·exact ao aS.nil iW (.nil) [] (by kernel_rfl)
theorem Dq:ab [([eql 14 (c 0),eql 13 (c 0)],eql 13 14),
([eql 13 (c 0)],leq (c 0) 13),
([eql 16 (c 0)],leq (c 0) 16),
([eql 16 (c 0)],leq 16 (.nat 15)),
([leq (c 0) 16,leq 16 (.nat 15),leq 15 (c 8)],fb (.cmp .geq (wx (.mul (c 8) 16)) (c 0))),
([eql 18 (wx (.add 16 (c 1))),leq 15 (c 8),lss 16 (.nat 15)],lss (.nat (.sub (.nat 15) 18)) (.nat (.sub (.nat 15) 16))),
([eql 18 (wx (.add 16 (c 1))),leq (c 0) 16,leq 16 (.nat 15),leq 15 (c 8)],leq (c 0) 18),
([eql 18 (wx (.add 16 (c 1))),leq (c 0) 16,lss 16 (.nat 15)],leq 18 (.nat 15)),
([leq (c 1) 15,leq (.add (.mul 14 (c 8)) 15) (.nat 1),eql 13 14,leq 1 (c 1000000)],leq (.add (.nat 13) (c 1)) (c 4294967296)),
([eql 5019 (.add 14 (c 1)),eql 5018 (.add (.nat 13) (c 1)),eql 13 14,leq (c 0) 13],eql 5018 5019),
([eql 5018 (.add (.nat 13) (c 1))],leq (c 0) 5018)]:=dS
theorem Dr:ab [([eql (.rem 1 (c 8)) (c 0),fb (.cmp .neq (.rem (.nat 1) (c 8)) (c 0))],eql (c 0) 1),
([leq (c 0) 1,eql (.rem 1 (c 8)) (c 0),leq (.nat 1) (.mul 14 (c 8)),fb (ix (ex 14 (c 0)) (.lit true) (lx (.mul (.sub 14 (c 1)) (c 8)) (.nat 1))),eql 13 14],eql (.mul 13 (c 8)) 1)]:=s8
theorem Dt:Zj.ok Tryz.prog:=m6 aS.nil iW (a5t Dq Dr) [2,0,0,3,4,5,6,2,2,0,7,8,9,10,11,2,12,13,14,15] (by kernel_rfl)
theorem Du:ab [([eql 14 (c 0),eql 13 (c 0)],eql 13 14),
([eql 13 (c 0)],leq (c 0) 13),
([eql 16 (c 0)],leq (c 0) 16),
([eql 16 (c 0)],leq 16 (.nat 15)),
([leq (c 0) 16,leq 16 (.nat 15),leq 15 (c 4)],fb (.cmp .geq (wx (.mul (c 8) 16)) (c 0))),
([eql 18 (wx (.add 16 (c 1))),leq 15 (c 4),lss 16 (.nat 15)],lss (.nat (.sub (.nat 15) 18)) (.nat (.sub (.nat 15) 16))),
([eql 18 (wx (.add 16 (c 1))),leq (c 0) 16,leq 16 (.nat 15),leq 15 (c 4)],leq (c 0) 18),
([eql 18 (wx (.add 16 (c 1))),leq (c 0) 16,lss 16 (.nat 15)],leq 18 (.nat 15)),
([leq (c 1) 15,leq (.add (.mul 14 (c 4)) 15) (.nat 1),eql 13 14,leq 1 (c 1000000)],leq (.add (.nat 13) (c 1)) (c 4294967296)),
([eql 5019 (.add 14 (c 1)),eql 5018 (.add (.nat 13) (c 1)),eql 13 14,leq (c 0) 13],eql 5018 5019),
([eql 5018 (.add (.nat 13) (c 1))],leq (c 0) 5018)]:=dS
theorem Dv:ab [([eql (.rem 1 (c 4)) (c 0),fb (.cmp .neq (.rem (.nat 1) (c 4)) (c 0))],eql (c 0) 1),
([leq (c 0) 1,eql (.rem 1 (c 4)) (c 0),leq (.nat 1) (.mul 14 (c 4)),fb (ix (ex 14 (c 0)) (.lit true) (lx (.mul (.sub 14 (c 1)) (c 4)) (.nat 1))),eql 13 14],eql (.mul 13 (c 4)) 1)]:=s8
theorem Dw:Zk.ok Tryz.prog:=m6 aS.nil iW (a5t Du Dv) [2,0,0,3,4,5,6,2,2,0,7,8,9,10,11,2,12,13,14,15] (by kernel_rfl)
theorem ajp:ab [([fb (nx (.cmp .neq (.nat 16) (c 3)))],lss (c 0) (.nat 16)),
([fb (nx (.cmp .neq (.nat 16) (c 3)))],lss (c 0) 16),
([fb (nx (.cmp .neq (.nat 16) (c 3)))],lss (c 1) (.nat 16)),
([fb (nx (.cmp .neq (.nat 16) (c 3)))],lss (c 1) 16),
([fb (nx (.cmp .neq (.nat 16) (c 3)))],lss (c 2) (.nat 16)),
([fb (nx (.cmp .neq (.nat 16) (c 3)))],lss (c 2) 16),
([fb (nx (.cmp .neq (.nat 16) (c 3)))],lss (c 2) (.nat 16)),
([fb (nx (.cmp .neq (.nat 16) (c 3)))],lss (c 2) 16),
([fb (nx (ix (.cmp .neq (.nat 16) (c 3)) (.lit true) (.lit false)))],lss (c 1) (.nat 16)),
([fb (nx (ix (.cmp .neq (.nat 16) (c 3)) (.lit true) (.lit false)))],lss (c 1) 16),
([fb (nx (ix (.cmp .neq (.nat 16) (c 3)) (.lit true) (.lit false)))],lss (c 2) (.nat 16)),
([fb (nx (ix (.cmp .neq (.nat 16) (c 3)) (.lit true) (.lit false)))],lss (c 2) 16),
([fb (nx (ix (ix (.cmp .neq (.nat 16) (c 3)) (.lit true) (.lit false)) (.lit true) (.lit false)))],lss (c 2) (.nat 16)),
([fb (nx (ix (ix (.cmp .neq (.nat 16) (c 3)) (.lit true) (.lit false)) (.lit true) (.lit false)))],lss (c 2) 16),
([eql (.mul 37 (c 4)) (gx 17 (c 1) 0),fb (nx (ix (ix (.cmp .neq (.nat 16) (c 3)) (.lit true) (.cmp .neq (.nat (gx 17 (c 0) 0)) (c 8))) (.lit true) (.cmp .neq (.nat (gx 17 (c 1) 0)) (c 8))))],lss (c 0) (.nat 37)),
([eql (.mul 37 (c 4)) (gx 17 (c 1) 0),fb (nx (ix (ix (.cmp .neq (.nat 16) (c 3)) (.lit true) (.cmp .neq (.nat (gx 17 (c 0) 0)) (c 8))) (.lit true) (.cmp .neq (.nat (gx 17 (c 1) 0)) (c 8))))],lss (c 1) (.nat 37)),
([eql (.mul 42 (c 4)) (gx 17 (c 2) 0),leq (gx 17 (c 2) 0) (c 1000000),leq (gx 17 (c 2) 0) (c 1000000)],leq 42 (c 1000000)),
([eql 49 (c 0),eql 48 (c 0)],eql 48 49),
([eql 48 (c 0)],leq (c 0) 48),
([leq (c 1) 50],lss (c 0) (.nat 50)),
([leq (c 1) 50,leq (.add (.mul 49 (c 2)) 50) (.nat 42),eql 48 49,eql (.mul 42 (c 4)) (gx 17 (c 2) 0),leq (gx 17 (c 2) 0) (c 1000000),leq (gx 17 (c 2) 0) (c 1000000)],leq (.add (.nat 48) (c 1)) (c 4294967296)),
([eql 54 (.add 49 (c 1)),eql 53 (.add (.nat 48) (c 1)),eql 48 49,leq (c 0) 48],eql 53 54),
([eql 53 (.add (.nat 48) (c 1))],leq (c 0) 53),
([fb (ix (ex 49 (c 0)) (.lit true) (lx (.mul (.sub 49 (c 1)) (c 2)) (.nat 42))),eql 48 49,eql (.mul 42 (c 4)) (gx 17 (c 2) 0),leq (gx 17 (c 2) 0) (c 1000000),leq (gx 17 (c 2) 0) (c 1000000)],leq 48 (c 1000000)),
([eql (.mul 32 (c 8)) (gx 17 (c 0) 0),fb (nx (ix (.cmp .neq (.nat 16) (c 3)) (.lit true) (.cmp .neq (.nat (gx 17 (c 0) 0)) (c 8))))],lss (c 0) (.nat 32)),
([fb (nx (ix (ix (ix (.cmp .neq (.nat 16) (c 3)) (.lit true) (.cmp .neq (.nat (gx 17 (c 0) 0)) (c 8))) (.lit true) (.cmp .neq (.nat (gx 17 (c 1) 0)) (c 8))) (.lit true) (.lit false))),fb (ix (ix (.cmp .neq (.nat 16) (c 3)) (.lit true) (.cmp .neq (.nat (gx 17 (c 0) 0)) (c 8))) (.lit true) (.cmp .neq (.nat (gx 17 (c 1) 0)) (c 8)))],eql (.rem (gx 17 (c 0) 0) (c 8)) (c 0)),
([fb (nx (ix (ix (ix (.cmp .neq (.nat 16) (c 3)) (.lit true) (.cmp .neq (.nat (gx 17 (c 0) 0)) (c 8))) (.lit true) (.cmp .neq (.nat (gx 17 (c 1) 0)) (c 8))) (.lit true) (.lit false))),fb (ix (ix (.cmp .neq (.nat 16) (c 3)) (.lit true) (.cmp .neq (.nat (gx 17 (c 0) 0)) (c 8))) (.lit true) (.cmp .neq (.nat (gx 17 (c 1) 0)) (c 8)))],eql (.rem (gx 17 (c 1) 0) (c 4)) (c 0)),
([fb (nx (.cmp .neq (.nat 16) (c 3)))],lss (c 2) (.nat 16)),
([fb (nx (.cmp .neq (.nat 16) (c 3)))],lss (c 2) 16),
([fb (nx (ix (ix (ix (.cmp .neq (.nat 16) (c 3)) (.lit true) (.cmp .neq (.nat (gx 17 (c 0) 0)) (c 8))) (.lit true) (.cmp .neq (.nat (gx 17 (c 1) 0)) (c 8))) (.lit true) (.lit false))),fb (ix (ix (.cmp .neq (.nat 16) (c 3)) (.lit true) (.cmp .neq (.nat (gx 17 (c 0) 0)) (c 8))) (.lit true) (.cmp .neq (.nat (gx 17 (c 1) 0)) (c 8)))],eql (.rem (gx 17 (c 2) 0) (c 4)) (c 0)),
([fb (nx (ix (ix (ix (.cmp .neq (.nat 16) (c 3)) (.lit true) (.cmp .neq (.nat (gx 17 (c 0) 0)) (c 8))) (.lit true) (.cmp .neq (.nat (gx 17 (c 1) 0)) (c 8))) (.lit true) (.lit false))),fb (ix (ix (.cmp .neq (.nat 16) (c 3)) (.lit true) (.cmp .neq (.nat (gx 17 (c 0) 0)) (c 8))) (.lit true) (.cmp .neq (.nat (gx 17 (c 1) 0)) (c 8)))],lss (c 0) (.nat 15059)),
([fb (nx (ix (ix (ix (.cmp .neq (.nat 16) (c 3)) (.lit true) (.cmp .neq (.nat (gx 17 (c 0) 0)) (c 8))) (.lit true) (.cmp .neq (.nat (gx 17 (c 1) 0)) (c 8))) (.lit true) (.lit false))),fb (ix (ix (.cmp .neq (.nat 16) (c 3)) (.lit true) (.cmp .neq (.nat (gx 17 (c 0) 0)) (c 8))) (.lit true) (.cmp .neq (.nat (gx 17 (c 1) 0)) (c 8)))],lss (c 1) (.nat 15059)),
([fb (nx (ix (ix (ix (.cmp .neq (.nat 16) (c 3)) (.lit true) (.cmp .neq (.nat (gx 17 (c 0) 0)) (c 8))) (.lit true) (.cmp .neq (.nat (gx 17 (c 1) 0)) (c 8))) (.lit true) (.lit false))),fb (ix (ix (.cmp .neq (.nat 16) (c 3)) (.lit true) (.cmp .neq (.nat (gx 17 (c 0) 0)) (c 8))) (.lit true) (.cmp .neq (.nat (gx 17 (c 1) 0)) (c 8)))],leq 15064 (c 1000000)),
([eql 15071 (c 0),eql 15070 (c 0)],eql 15070 15071),
([eql 15070 (c 0)],leq (c 0) 15070),
([leq (c 1) 15072],lss (c 0) (.nat 15072)),
([fb (nx (ix (ix (ix (.cmp .neq (.nat 16) (c 3)) (.lit true) (.cmp .neq (.nat (gx 17 (c 0) 0)) (c 8))) (.lit true) (.cmp .neq (.nat (gx 17 (c 1) 0)) (c 8))) (.lit true) (.lit false))),fb (ix (ix (.cmp .neq (.nat 16) (c 3)) (.lit true) (.cmp .neq (.nat (gx 17 (c 0) 0)) (c 8))) (.lit true) (.cmp .neq (.nat (gx 17 (c 1) 0)) (c 8)))],lss (c 1) (.nat 15072)),
([fb (nx (ix (ix (ix (.cmp .neq (.nat 16) (c 3)) (.lit true) (.cmp .neq (.nat (gx 17 (c 0) 0)) (c 8))) (.lit true) (.cmp .neq (.nat (gx 17 (c 1) 0)) (c 8))) (.lit true) (.lit false))),fb (ix (ix (.cmp .neq (.nat 16) (c 3)) (.lit true) (.cmp .neq (.nat (gx 17 (c 0) 0)) (c 8))) (.lit true) (.cmp .neq (.nat (gx 17 (c 1) 0)) (c 8)))],leq (.add (.nat 15070) (c 1)) (c 4294967296)),
([eql 15076 (.add 15071 (c 1)),eql 15075 (.add (.nat 15070) (c 1)),eql 15070 15071,leq (c 0) 15070],eql 15075 15076),
([eql 15075 (.add (.nat 15070) (c 1))],leq (c 0) 15075),
([fb (nx (ix (ix (ix (.cmp .neq (.nat 16) (c 3)) (.lit true) (.cmp .neq (.nat (gx 17 (c 0) 0)) (c 8))) (.lit true) (.cmp .neq (.nat (gx 17 (c 1) 0)) (c 8))) (.lit true) (.lit false))),fb (ix (ix (.cmp .neq (.nat 16) (c 3)) (.lit true) (.cmp .neq (.nat (gx 17 (c 0) 0)) (c 8))) (.lit true) (.cmp .neq (.nat (gx 17 (c 1) 0)) (c 8)))],leq 15070 (c 1000000)),
([fb (nx (ix (ix (ix (.cmp .neq (.nat 16) (c 3)) (.lit true) (.cmp .neq (.nat (gx 17 (c 0) 0)) (c 8))) (.lit true) (.cmp .neq (.nat (gx 17 (c 1) 0)) (c 8))) (.lit true) (.lit false))),fb (ix (ix (.cmp .neq (.nat 16) (c 3)) (.lit true) (.cmp .neq (.nat (gx 17 (c 0) 0)) (c 8))) (.lit true) (.cmp .neq (.nat (gx 17 (c 1) 0)) (c 8)))],lss (c 0) (.nat 15054)),
([fb (nx (ix (ix (.cmp .neq (.nat 16) (c 3)) (.lit true) (.cmp .neq (.nat (gx 17 (c 0) 0)) (c 8))) (.lit true) (.lit false))),fb (ix (.cmp .neq (.nat 16) (c 3)) (.lit true) (.cmp .neq (.nat (gx 17 (c 0) 0)) (c 8)))],eql (.rem (gx 17 (c 0) 0) (c 8)) (c 0)),
([fb (nx (.cmp .neq (.nat 16) (c 3)))],lss (c 1) (.nat 16)),
([fb (nx (.cmp .neq (.nat 16) (c 3)))],lss (c 1) 16),
([fb (nx (ix (ix (.cmp .neq (.nat 16) (c 3)) (.lit true) (.cmp .neq (.nat (gx 17 (c 0) 0)) (c 8))) (.lit true) (.lit false))),fb (ix (.cmp .neq (.nat 16) (c 3)) (.lit true) (.cmp .neq (.nat (gx 17 (c 0) 0)) (c 8)))],eql (.rem (gx 17 (c 1) 0) (c 4)) (c 0)),
([fb (nx (ix (ix (.cmp .neq (.nat 16) (c 3)) (.lit true) (.cmp .neq (.nat (gx 17 (c 0) 0)) (c 8))) (.lit true) (.lit false))),fb (ix (.cmp .neq (.nat 16) (c 3)) (.lit true) (.cmp .neq (.nat (gx 17 (c 0) 0)) (c 8)))],eql (.rem (gx 17 (c 2) 0) (c 4)) (c 0)),
([fb (nx (ix (ix (.cmp .neq (.nat 16) (c 3)) (.lit true) (.cmp .neq (.nat (gx 17 (c 0) 0)) (c 8))) (.lit true) (.lit false))),fb (ix (.cmp .neq (.nat 16) (c 3)) (.lit true) (.cmp .neq (.nat (gx 17 (c 0) 0)) (c 8)))],lss (c 0) (.nat 30081)),
([fb (nx (ix (ix (.cmp .neq (.nat 16) (c 3)) (.lit true) (.cmp .neq (.nat (gx 17 (c 0) 0)) (c 8))) (.lit true) (.lit false))),fb (ix (.cmp .neq (.nat 16) (c 3)) (.lit true) (.cmp .neq (.nat (gx 17 (c 0) 0)) (c 8)))],lss (c 1) (.nat 30081)),
([fb (nx (ix (ix (.cmp .neq (.nat 16) (c 3)) (.lit true) (.cmp .neq (.nat (gx 17 (c 0) 0)) (c 8))) (.lit true) (.lit false))),fb (ix (.cmp .neq (.nat 16) (c 3)) (.lit true) (.cmp .neq (.nat (gx 17 (c 0) 0)) (c 8)))],leq 30086 (c 1000000)),
([eql 30093 (c 0),eql 30092 (c 0)],eql 30092 30093),
([eql 30092 (c 0)],leq (c 0) 30092),
([leq (c 1) 30094],lss (c 0) (.nat 30094)),
([fb (nx (ix (ix (.cmp .neq (.nat 16) (c 3)) (.lit true) (.cmp .neq (.nat (gx 17 (c 0) 0)) (c 8))) (.lit true) (.lit false))),fb (ix (.cmp .neq (.nat 16) (c 3)) (.lit true) (.cmp .neq (.nat (gx 17 (c 0) 0)) (c 8)))],lss (c 1) (.nat 30094)),
([fb (nx (ix (ix (.cmp .neq (.nat 16) (c 3)) (.lit true) (.cmp .neq (.nat (gx 17 (c 0) 0)) (c 8))) (.lit true) (.lit false))),fb (ix (.cmp .neq (.nat 16) (c 3)) (.lit true) (.cmp .neq (.nat (gx 17 (c 0) 0)) (c 8)))],leq (.add (.nat 30092) (c 1)) (c 4294967296)),
([eql 30098 (.add 30093 (c 1)),eql 30097 (.add (.nat 30092) (c 1)),eql 30092 30093,leq (c 0) 30092],eql 30097 30098),
([eql 30097 (.add (.nat 30092) (c 1))],leq (c 0) 30097),
([fb (nx (ix (ix (.cmp .neq (.nat 16) (c 3)) (.lit true) (.cmp .neq (.nat (gx 17 (c 0) 0)) (c 8))) (.lit true) (.lit false))),fb (ix (.cmp .neq (.nat 16) (c 3)) (.lit true) (.cmp .neq (.nat (gx 17 (c 0) 0)) (c 8)))],leq 30092 (c 1000000)),
([fb (nx (ix (ix (.cmp .neq (.nat 16) (c 3)) (.lit true) (.cmp .neq (.nat (gx 17 (c 0) 0)) (c 8))) (.lit true) (.lit false))),fb (ix (.cmp .neq (.nat 16) (c 3)) (.lit true) (.cmp .neq (.nat (gx 17 (c 0) 0)) (c 8)))],lss (c 0) (.nat 30076)),
([fb (nx (ix (ix (ix (.cmp .neq (.nat 16) (c 3)) (.lit true) (.cmp .neq (.nat (gx 17 (c 0) 0)) (c 8))) (.lit true) (.lit false)) (.lit true) (.lit false))),fb (ix (.cmp .neq (.nat 16) (c 3)) (.lit true) (.cmp .neq (.nat (gx 17 (c 0) 0)) (c 8)))],eql (.rem (gx 17 (c 0) 0) (c 8)) (c 0)),
([fb (nx (.cmp .neq (.nat 16) (c 3)))],lss (c 1) (.nat 16)),
([fb (nx (.cmp .neq (.nat 16) (c 3)))],lss (c 1) 16),
([fb (nx (ix (ix (ix (.cmp .neq (.nat 16) (c 3)) (.lit true) (.cmp .neq (.nat (gx 17 (c 0) 0)) (c 8))) (.lit true) (.lit false)) (.lit true) (.lit false))),fb (ix (.cmp .neq (.nat 16) (c 3)) (.lit true) (.cmp .neq (.nat (gx 17 (c 0) 0)) (c 8)))],eql (.rem (gx 17 (c 1) 0) (c 4)) (c 0)),
([fb (nx (.cmp .neq (.nat 16) (c 3)))],lss (c 2) (.nat 16)),
([fb (nx (.cmp .neq (.nat 16) (c 3)))],lss (c 2) 16),
([fb (nx (ix (ix (ix (.cmp .neq (.nat 16) (c 3)) (.lit true) (.cmp .neq (.nat (gx 17 (c 0) 0)) (c 8))) (.lit true) (.lit false)) (.lit true) (.lit false))),fb (ix (.cmp .neq (.nat 16) (c 3)) (.lit true) (.cmp .neq (.nat (gx 17 (c 0) 0)) (c 8)))],eql (.rem (gx 17 (c 2) 0) (c 4)) (c 0)),
([fb (nx (ix (ix (ix (.cmp .neq (.nat 16) (c 3)) (.lit true) (.cmp .neq (.nat (gx 17 (c 0) 0)) (c 8))) (.lit true) (.lit false)) (.lit true) (.lit false))),fb (ix (.cmp .neq (.nat 16) (c 3)) (.lit true) (.cmp .neq (.nat (gx 17 (c 0) 0)) (c 8)))],lss (c 0) (.nat 45103)),
([fb (nx (ix (ix (ix (.cmp .neq (.nat 16) (c 3)) (.lit true) (.cmp .neq (.nat (gx 17 (c 0) 0)) (c 8))) (.lit true) (.lit false)) (.lit true) (.lit false))),fb (ix (.cmp .neq (.nat 16) (c 3)) (.lit true) (.cmp .neq (.nat (gx 17 (c 0) 0)) (c 8)))],lss (c 1) (.nat 45103)),
([fb (nx (ix (ix (ix (.cmp .neq (.nat 16) (c 3)) (.lit true) (.cmp .neq (.nat (gx 17 (c 0) 0)) (c 8))) (.lit true) (.lit false)) (.lit true) (.lit false))),fb (ix (.cmp .neq (.nat 16) (c 3)) (.lit true) (.cmp .neq (.nat (gx 17 (c 0) 0)) (c 8)))],leq 45108 (c 1000000)),
([eql 45115 (c 0),eql 45114 (c 0)],eql 45114 45115),
([eql 45114 (c 0)],leq (c 0) 45114),
([leq (c 1) 45116],lss (c 0) (.nat 45116)),
([fb (nx (ix (ix (ix (.cmp .neq (.nat 16) (c 3)) (.lit true) (.cmp .neq (.nat (gx 17 (c 0) 0)) (c 8))) (.lit true) (.lit false)) (.lit true) (.lit false))),fb (ix (.cmp .neq (.nat 16) (c 3)) (.lit true) (.cmp .neq (.nat (gx 17 (c 0) 0)) (c 8)))],lss (c 1) (.nat 45116)),
([fb (nx (ix (ix (ix (.cmp .neq (.nat 16) (c 3)) (.lit true) (.cmp .neq (.nat (gx 17 (c 0) 0)) (c 8))) (.lit true) (.lit false)) (.lit true) (.lit false))),fb (ix (.cmp .neq (.nat 16) (c 3)) (.lit true) (.cmp .neq (.nat (gx 17 (c 0) 0)) (c 8)))],leq (.add (.nat 45114) (c 1)) (c 4294967296)),
([eql 45120 (.add 45115 (c 1)),eql 45119 (.add (.nat 45114) (c 1)),eql 45114 45115,leq (c 0) 45114],eql 45119 45120),
([eql 45119 (.add (.nat 45114) (c 1))],leq (c 0) 45119),
([fb (nx (ix (ix (ix (.cmp .neq (.nat 16) (c 3)) (.lit true) (.cmp .neq (.nat (gx 17 (c 0) 0)) (c 8))) (.lit true) (.lit false)) (.lit true) (.lit false))),fb (ix (.cmp .neq (.nat 16) (c 3)) (.lit true) (.cmp .neq (.nat (gx 17 (c 0) 0)) (c 8)))],leq 45114 (c 1000000)),
([fb (nx (ix (ix (ix (.cmp .neq (.nat 16) (c 3)) (.lit true) (.cmp .neq (.nat (gx 17 (c 0) 0)) (c 8))) (.lit true) (.lit false)) (.lit true) (.lit false))),fb (ix (.cmp .neq (.nat 16) (c 3)) (.lit true) (.cmp .neq (.nat (gx 17 (c 0) 0)) (c 8)))],lss (c 0) (.nat 45098)),
([fb (nx (ix (.cmp .neq (.nat 16) (c 3)) (.lit true) (.lit false)))],lss (c 0) (.nat 16)),
([fb (nx (ix (.cmp .neq (.nat 16) (c 3)) (.lit true) (.lit false)))],lss (c 0) 16),
([fb (nx (ix (.cmp .neq (.nat 16) (c 3)) (.lit true) (.lit false))),fb (.cmp .neq (.nat 16) (c 3))],eql (.rem (gx 17 (c 0) 0) (c 8)) (c 0)),
([fb (nx (ix (.cmp .neq (.nat 16) (c 3)) (.lit true) (.lit false))),fb (.cmp .neq (.nat 16) (c 3))],eql (.rem (gx 17 (c 1) 0) (c 4)) (c 0)),
([fb (nx (ix (.cmp .neq (.nat 16) (c 3)) (.lit true) (.lit false))),fb (.cmp .neq (.nat 16) (c 3))],eql (.rem (gx 17 (c 2) 0) (c 4)) (c 0)),
([eql (.mul 60130 (c 4)) (gx 17 (c 2) 0),leq (gx 17 (c 2) 0) (c 1000000),leq (gx 17 (c 2) 0) (c 1000000)],leq 60130 (c 1000000)),
([eql 60137 (c 0),eql 60136 (c 0)],eql 60136 60137),
([eql 60136 (c 0)],leq (c 0) 60136),
([leq (c 1) 60138],lss (c 0) (.nat 60138)),
([fb (nx (ix (.cmp .neq (.nat 16) (c 3)) (.lit true) (.lit false))),fb (.cmp .neq (.nat 16) (c 3))],leq (.add (.nat 60136) (c 1)) (c 4294967296)),
([eql 60142 (.add 60137 (c 1)),eql 60141 (.add (.nat 60136) (c 1)),eql 60136 60137,leq (c 0) 60136],eql 60141 60142),
([eql 60141 (.add (.nat 60136) (c 1))],leq (c 0) 60141),
([fb (nx (ix (.cmp .neq (.nat 16) (c 3)) (.lit true) (.lit false))),fb (.cmp .neq (.nat 16) (c 3))],leq 60136 (c 1000000)),
([fb (nx (ix (.cmp .neq (.nat 16) (c 3)) (.lit true) (.lit false))),fb (.cmp .neq (.nat 16) (c 3))],lss (c 0) (.nat 60120)),
([fb (nx (ix (.cmp .neq (.nat 16) (c 3)) (.lit true) (.lit false)))],lss (c 0) (.nat 16)),
([fb (nx (ix (.cmp .neq (.nat 16) (c 3)) (.lit true) (.lit false)))],lss (c 0) 16),
([fb (nx (ix (.cmp .neq (.nat 16) (c 3)) (.lit true) (.lit false))),fb (.cmp .neq (.nat 16) (c 3))],eql (.rem (gx 17 (c 0) 0) (c 8)) (c 0)),
([fb (nx (ix (.cmp .neq (.nat 16) (c 3)) (.lit true) (.lit false))),fb (.cmp .neq (.nat 16) (c 3))],eql (.rem (gx 17 (c 1) 0) (c 4)) (c 0)),
([fb (nx (ix (.cmp .neq (.nat 16) (c 3)) (.lit true) (.lit false)))],lss (c 2) (.nat 16)),
([fb (nx (ix (.cmp .neq (.nat 16) (c 3)) (.lit true) (.lit false)))],lss (c 2) 16),
([fb (nx (ix (.cmp .neq (.nat 16) (c 3)) (.lit true) (.lit false))),fb (.cmp .neq (.nat 16) (c 3))],eql (.rem (gx 17 (c 2) 0) (c 4)) (c 0)),
([eql (.mul 75152 (c 4)) (gx 17 (c 2) 0),leq (gx 17 (c 2) 0) (c 1000000)],leq 75152 (c 1000000)),
([eql 75159 (c 0),eql 75158 (c 0)],eql 75158 75159),
([eql 75158 (c 0)],leq (c 0) 75158),
([leq (c 1) 75160],lss (c 0) (.nat 75160)),
([fb (nx (ix (.cmp .neq (.nat 16) (c 3)) (.lit true) (.lit false))),fb (.cmp .neq (.nat 16) (c 3))],leq (.add (.nat 75158) (c 1)) (c 4294967296)),
([eql 75164 (.add 75159 (c 1)),eql 75163 (.add (.nat 75158) (c 1)),eql 75158 75159,leq (c 0) 75158],eql 75163 75164),
([eql 75163 (.add (.nat 75158) (c 1))],leq (c 0) 75163),
([fb (nx (ix (.cmp .neq (.nat 16) (c 3)) (.lit true) (.lit false))),fb (.cmp .neq (.nat 16) (c 3))],leq 75158 (c 1000000)),
([fb (nx (ix (ix (.cmp .neq (.nat 16) (c 3)) (.lit true) (.lit false)) (.lit true) (.lit false)))],lss (c 0) (.nat 16)),
([fb (nx (ix (ix (.cmp .neq (.nat 16) (c 3)) (.lit true) (.lit false)) (.lit true) (.lit false)))],lss (c 0) 16),
([fb (nx (ix (ix (.cmp .neq (.nat 16) (c 3)) (.lit true) (.lit false)) (.lit true) (.lit false))),fb (.cmp .neq (.nat 16) (c 3))],eql (.rem (gx 17 (c 0) 0) (c 8)) (c 0)),
([fb (nx (ix (ix (.cmp .neq (.nat 16) (c 3)) (.lit true) (.lit false)) (.lit true) (.lit false)))],lss (c 1) (.nat 16)),
([fb (nx (ix (ix (.cmp .neq (.nat 16) (c 3)) (.lit true) (.lit false)) (.lit true) (.lit false)))],lss (c 1) 16),
([fb (nx (ix (ix (.cmp .neq (.nat 16) (c 3)) (.lit true) (.lit false)) (.lit true) (.lit false))),fb (.cmp .neq (.nat 16) (c 3))],eql (.rem (gx 17 (c 1) 0) (c 4)) (c 0)),
([fb (nx (ix (ix (.cmp .neq (.nat 16) (c 3)) (.lit true) (.lit false)) (.lit true) (.lit false))),fb (.cmp .neq (.nat 16) (c 3))],eql (.rem (gx 17 (c 2) 0) (c 4)) (c 0)),
([fb (nx (ix (ix (.cmp .neq (.nat 16) (c 3)) (.lit true) (.lit false)) (.lit true) (.lit false))),fb (.cmp .neq (.nat 16) (c 3))],lss (c 0) (.nat 90169)),
([fb (nx (ix (ix (.cmp .neq (.nat 16) (c 3)) (.lit true) (.lit false)) (.lit true) (.lit false))),fb (.cmp .neq (.nat 16) (c 3))],lss (c 1) (.nat 90169)),
([eql (.mul 90174 (c 4)) (gx 17 (c 2) 0),leq (gx 17 (c 2) 0) (c 1000000),leq (gx 17 (c 2) 0) (c 1000000)],leq 90174 (c 1000000)),
([eql 90181 (c 0),eql 90180 (c 0)],eql 90180 90181),
([eql 90180 (c 0)],leq (c 0) 90180),
([leq (c 1) 90182],lss (c 0) (.nat 90182)),
([fb (nx (ix (ix (.cmp .neq (.nat 16) (c 3)) (.lit true) (.lit false)) (.lit true) (.lit false))),fb (.cmp .neq (.nat 16) (c 3))],leq (.add (.nat 90180) (c 1)) (c 4294967296)),
([eql 90186 (.add 90181 (c 1)),eql 90185 (.add (.nat 90180) (c 1)),eql 90180 90181,leq (c 0) 90180],eql 90185 90186),
([eql 90185 (.add (.nat 90180) (c 1))],leq (c 0) 90185),
([fb (nx (ix (ix (.cmp .neq (.nat 16) (c 3)) (.lit true) (.lit false)) (.lit true) (.lit false))),fb (.cmp .neq (.nat 16) (c 3))],leq 90180 (c 1000000)),
([fb (nx (ix (ix (.cmp .neq (.nat 16) (c 3)) (.lit true) (.lit false)) (.lit true) (.lit false))),fb (.cmp .neq (.nat 16) (c 3))],lss (c 0) (.nat 90164)),
([fb (nx (ix (ix (ix (.cmp .neq (.nat 16) (c 3)) (.lit true) (.lit false)) (.lit true) (.lit false)) (.lit true) (.lit false)))],lss (c 0) (.nat 16)),
([fb (nx (ix (ix (ix (.cmp .neq (.nat 16) (c 3)) (.lit true) (.lit false)) (.lit true) (.lit false)) (.lit true) (.lit false)))],lss (c 0) 16),
([fb (nx (ix (ix (ix (.cmp .neq (.nat 16) (c 3)) (.lit true) (.lit false)) (.lit true) (.lit false)) (.lit true) (.lit false))),fb (.cmp .neq (.nat 16) (c 3))],eql (.rem (gx 17 (c 0) 0) (c 8)) (c 0)),
([fb (nx (ix (ix (ix (.cmp .neq (.nat 16) (c 3)) (.lit true) (.lit false)) (.lit true) (.lit false)) (.lit true) (.lit false)))],lss (c 1) (.nat 16)),
([fb (nx (ix (ix (ix (.cmp .neq (.nat 16) (c 3)) (.lit true) (.lit false)) (.lit true) (.lit false)) (.lit true) (.lit false)))],lss (c 1) 16),
([fb (nx (ix (ix (ix (.cmp .neq (.nat 16) (c 3)) (.lit true) (.lit false)) (.lit true) (.lit false)) (.lit true) (.lit false))),fb (.cmp .neq (.nat 16) (c 3))],eql (.rem (gx 17 (c 1) 0) (c 4)) (c 0)),
([fb (nx (ix (ix (ix (.cmp .neq (.nat 16) (c 3)) (.lit true) (.lit false)) (.lit true) (.lit false)) (.lit true) (.lit false)))],lss (c 2) (.nat 16)),
([fb (nx (ix (ix (ix (.cmp .neq (.nat 16) (c 3)) (.lit true) (.lit false)) (.lit true) (.lit false)) (.lit true) (.lit false)))],lss (c 2) 16),
([fb (nx (ix (ix (ix (.cmp .neq (.nat 16) (c 3)) (.lit true) (.lit false)) (.lit true) (.lit false)) (.lit true) (.lit false))),fb (.cmp .neq (.nat 16) (c 3))],eql (.rem (gx 17 (c 2) 0) (c 4)) (c 0)),
([fb (nx (ix (ix (ix (.cmp .neq (.nat 16) (c 3)) (.lit true) (.lit false)) (.lit true) (.lit false)) (.lit true) (.lit false))),fb (.cmp .neq (.nat 16) (c 3))],lss (c 0) (.nat 105191)),
([fb (nx (ix (ix (ix (.cmp .neq (.nat 16) (c 3)) (.lit true) (.lit false)) (.lit true) (.lit false)) (.lit true) (.lit false))),fb (.cmp .neq (.nat 16) (c 3))],lss (c 1) (.nat 105191)),
([eql (.mul 105196 (c 4)) (gx 17 (c 2) 0),leq (gx 17 (c 2) 0) (c 1000000)],leq 105196 (c 1000000)),
([eql 105203 (c 0),eql 105202 (c 0)],eql 105202 105203),
([eql 105202 (c 0)],leq (c 0) 105202),
([leq (c 1) 105204],lss (c 0) (.nat 105204)),
([fb (nx (ix (ix (ix (.cmp .neq (.nat 16) (c 3)) (.lit true) (.lit false)) (.lit true) (.lit false)) (.lit true) (.lit false))),fb (.cmp .neq (.nat 16) (c 3))],lss (c 1) (.nat 105204)),
([leq (c 1) 105204,leq (.add (.mul 105203 (c 2)) 105204) (.nat 105196),eql 105202 105203,eql (.mul 105196 (c 4)) (gx 17 (c 2) 0),leq (gx 17 (c 2) 0) (c 1000000)],leq (.add (.nat 105202) (c 1)) (c 4294967296)),
([eql 105208 (.add 105203 (c 1)),eql 105207 (.add (.nat 105202) (c 1)),eql 105202 105203,leq (c 0) 105202],eql 105207 105208),
([eql 105207 (.add (.nat 105202) (c 1))],leq (c 0) 105207),
([fb (ix (ex 105203 (c 0)) (.lit true) (lx (.mul (.sub 105203 (c 1)) (c 2)) (.nat 105196))),eql 105202 105203,eql (.mul 105196 (c 4)) (gx 17 (c 2) 0),leq (gx 17 (c 2) 0) (c 1000000)],leq 105202 (c 1000000)),
([fb (nx (ix (ix (ix (.cmp .neq (.nat 16) (c 3)) (.lit true) (.lit false)) (.lit true) (.lit false)) (.lit true) (.lit false))),fb (.cmp .neq (.nat 16) (c 3))],lss (c 0) (.nat 105186))]:=dS
theorem ajq:ab [([fb (nx (ix (.cmp .neq (.nat 16) (c 3)) (.lit true) (.cmp .neq (.nat (gx 17 (c 0) 0)) (c 8))))],eql (.rem (gx 17 (c 0) 0) (c 8)) (c 0)),
([fb (nx (ix (ix (.cmp .neq (.nat 16) (c 3)) (.lit true) (.cmp .neq (.nat (gx 17 (c 0) 0)) (c 8))) (.lit true) (.cmp .neq (.nat (gx 17 (c 1) 0)) (c 8))))],eql (.rem (gx 17 (c 1) 0) (c 4)) (c 0)),
([leq (c 0) (gx 17 (c 2) 0),leq (c 0) (gx 17 (c 2) 0),fb (nx (ix (ix (ix (.cmp .neq (.nat 16) (c 3)) (.lit true) (.cmp .neq (.nat (gx 17 (c 0) 0)) (c 8))) (.lit true) (.cmp .neq (.nat (gx 17 (c 1) 0)) (c 8))) (.lit true) (.cmp .neq (.rem (.nat (gx 17 (c 2) 0)) (c 8)) (c 0))))],eql (.rem (gx 17 (c 2) 0) (c 4)) (c 0)),
([leq (c 1) 50,fb (ix (ex 50 (c 2)) (.lit true) (ex (.add (.mul 49 (c 2)) 50) (.nat 42))),eql (.mul 42 (c 4)) (gx 17 (c 2) 0),fb (nx (ix (ix (ix (.cmp .neq (.nat 16) (c 3)) (.lit true) (.cmp .neq (.nat (gx 17 (c 0) 0)) (c 8))) (.lit true) (.cmp .neq (.nat (gx 17 (c 1) 0)) (c 8))) (.lit true) (.cmp .neq (.rem (.nat (gx 17 (c 2) 0)) (c 8)) (c 0))))],lss (c 1) (.nat 50)),
([eql (.mul 60125 (c 4)) (gx 17 (c 1) 0),fb (nx (ix (ix (.cmp .neq (.nat 16) (c 3)) (.lit true) (.lit false)) (.lit true) (.cmp .neq (.nat (gx 17 (c 1) 0)) (c 8))))],lss (c 0) (.nat 60125)),
([eql (.mul 60125 (c 4)) (gx 17 (c 1) 0),fb (nx (ix (ix (.cmp .neq (.nat 16) (c 3)) (.lit true) (.lit false)) (.lit true) (.cmp .neq (.nat (gx 17 (c 1) 0)) (c 8))))],lss (c 1) (.nat 60125)),
([leq (c 1) 60138,fb (ix (ex 60138 (c 2)) (.lit true) (ex (.add (.mul 60137 (c 2)) 60138) (.nat 60130))),eql (.mul 60130 (c 4)) (gx 17 (c 2) 0),fb (nx (ix (ix (ix (.cmp .neq (.nat 16) (c 3)) (.lit true) (.lit false)) (.lit true) (.cmp .neq (.nat (gx 17 (c 1) 0)) (c 8))) (.lit true) (.cmp .neq (.rem (.nat (gx 17 (c 2) 0)) (c 8)) (c 0))))],lss (c 1) (.nat 60138)),
([fb (nx (ix (ix (ix (.cmp .neq (.nat 16) (c 3)) (.lit true) (.lit false)) (.lit true) (.cmp .neq (.nat (gx 17 (c 1) 0)) (c 8))) (.lit true) (.lit false))),fb (ix (ix (.cmp .neq (.nat 16) (c 3)) (.lit true) (.lit false)) (.lit true) (.cmp .neq (.nat (gx 17 (c 1) 0)) (c 8)))],lss (c 0) (.nat 75147)),
([fb (nx (ix (ix (ix (.cmp .neq (.nat 16) (c 3)) (.lit true) (.lit false)) (.lit true) (.cmp .neq (.nat (gx 17 (c 1) 0)) (c 8))) (.lit true) (.lit false))),fb (ix (ix (.cmp .neq (.nat 16) (c 3)) (.lit true) (.lit false)) (.lit true) (.cmp .neq (.nat (gx 17 (c 1) 0)) (c 8)))],lss (c 1) (.nat 75147)),
([fb (nx (ix (ix (ix (.cmp .neq (.nat 16) (c 3)) (.lit true) (.lit false)) (.lit true) (.cmp .neq (.nat (gx 17 (c 1) 0)) (c 8))) (.lit true) (.lit false))),fb (ix (ix (.cmp .neq (.nat 16) (c 3)) (.lit true) (.lit false)) (.lit true) (.cmp .neq (.nat (gx 17 (c 1) 0)) (c 8)))],lss (c 1) (.nat 75160)),
([fb (nx (ix (ix (ix (.cmp .neq (.nat 16) (c 3)) (.lit true) (.lit false)) (.lit true) (.cmp .neq (.nat (gx 17 (c 1) 0)) (c 8))) (.lit true) (.lit false))),fb (ix (ix (.cmp .neq (.nat 16) (c 3)) (.lit true) (.lit false)) (.lit true) (.cmp .neq (.nat (gx 17 (c 1) 0)) (c 8)))],lss (c 0) (.nat 75142)),
([leq (c 1) 90182,fb (ix (ex 90182 (c 2)) (.lit true) (ex (.add (.mul 90181 (c 2)) 90182) (.nat 90174))),eql (.mul 90174 (c 4)) (gx 17 (c 2) 0),fb (nx (ix (ix (ix (.cmp .neq (.nat 16) (c 3)) (.lit true) (.lit false)) (.lit true) (.lit false)) (.lit true) (.cmp .neq (.rem (.nat (gx 17 (c 2) 0)) (c 8)) (c 0))))],lss (c 1) (.nat 90182))]:=s8
theorem a94:ah6.ok Tryz.prog:=m6 (.cons Zr (.cons y5 (.cons Zy (.cons Dt (.cons Dw .nil))))) iW (a5t ajp ajq) [0,3,3,0,4,0,5,5,0,6,0,7,7,0,8,0,7,7,0,8,0,11,11,0,12,0,13,13,0,14,0,15,15,0,16,0,0,0,3,3,0,4,149,0,0,0,0,0,5,5,0,6,150,0,0,0,0,0,7,7,0,8,151,0,0,0,0,0,17,17,0,0,0,18,18,0,0,19,0,0,20,21,0,22,22,0,152,152,23,2,24,25,26,0,0,0,27,27,0,0,0,3,3,0,4,149,0,0,0,0,0,5,5,0,6,29,0,0,0,0,0,7,7,0,8,32,0,0,0,0,0,33,33,0,0,0,34,34,0,0,35,0,0,36,37,0,38,38,0,39,39,40,2,41,42,43,0,0,0,44,44,0,0,0,3,3,0,4,45,0,0,0,0,0,5,5,0,6,48,0,0,0,0,0,7,7,0,8,49,0,0,0,0,0,50,50,0,0,0,51,51,0,0,52,0,0,53,54,0,55,55,0,56,56,57,2,58,59,60,0,0,0,61,61,0,0,0,3,3,0,4,62,0,0,0,0,0,5,5,0,6,65,0,0,0,0,0,7,7,0,8,68,0,0,0,0,0,69,69,0,0,0,70,70,0,0,71,0,0,72,73,0,74,74,0,75,75,76,2,77,78,79,0,0,0,80,80,0,0,0,81,81,0,82,83,0,0,0,0,0,11,11,0,12,84,0,0,0,0,0,13,13,0,14,85,0,0,0,0,0,153,153,0,0,0,154,154,0,0,86,0,0,87,88,0,89,89,0,155,155,90,2,91,92,93,0,0,0,94,94,0,0,0,81,81,0,82,83,0,0,0,0,0,11,11,0,12,84,0,0,0,0,0,13,13,0,14,85,0,0,0,0,0,156,156,0,0,0,157,157,0,0,102,0,0,103,104,0,105,105,0,158,158,106,2,107,108,109,0,0,0,159,159,0,0,0,110,110,0,111,112,0,0,0,0,0,113,113,0,114,115,0,0,0,0,0,15,15,0,16,116,0,0,0,0,0,117,117,0,0,0,118,118,0,0,119,0,0,120,121,0,122,122,0,160,160,123,2,124,125,126,0,0,0,127,127,0,0,0,128,128,0,129,130,0,0,0,0,0,131,131,0,132,133,0,0,0,0,0,134,134,0,135,136,0,0,0,0,0,137,137,0,0,0,138,138,0,0,139,0,0,140,141,0,142,142,0,143,143,144,2,145,146,147,0,0,0,148,148,0,0,0,0,0,0,0,0,2,26,0,0,0,0,2,43,0,0,0,0,2,60,0,0,0,0,2,79,0,0,0,0,2,93,0,0,0,0,2,109,0,0,0,0,2,126,0,0,0,0,2,147] (by kernel_rfl)
theorem ai2:ab [([eql 10 (c 0)],leq (c 0) 10),
([eql 10 (c 0)],leq 10 (.nat 0)),
([lss 10 (.nat 0),fb (nx (.cmp .neq (.nat 0) (.nat 1)))],lss 10 (.nat 1)),
([leq (c 0) 10,lss 10 (.nat 0),fb (nx (.cmp .neq (.nat 0) (.nat 1)))],lss (.nat 10) (.nat 1)),
([eql 11 (wx (.add 10 (c 1))),lss 10 (.nat 0),leq 0 (c 1000000)],lss (.nat (.sub (.nat 0) 11)) (.nat (.sub (.nat 0) 10))),
([eql 11 (wx (.add 10 (c 1))),leq (c 0) 10,lss 10 (.nat 0),leq 0 (c 1000000)],leq (c 0) 11),
([eql 11 (wx (.add 10 (c 1))),leq (c 0) 10,lss 10 (.nat 0)],leq 11 (.nat 0))]:=dS
theorem Iw:a7d.ok Tryz.prog:=ao aS.nil rN ai2 [3,4,2,2,0,2,5,6,7,8,9] (by kernel_rfl)
theorem ajs:ab [([eql 11 (c 0),eql 12 (c 0)],eql 12 (.mul (c 8) 11)),
([eql 11 (c 0)],leq (c 0) 11),
([eql 11 (c 0)],leq 11 (.nat 1)),
([eql 12 (.mul (c 8) 11),lss 11 (.nat 1),leq 1 (c 64)],leq (.add (.nat 12) (c 8)) (c 4294967296)),
([eql 12 (.mul (c 8) 11),leq (c 0) 11],leq (c 0) 12),
([eql 32 (wx (.add 11 (c 1))),lss 11 (.nat 1),leq 1 (c 64)],lss (.nat (.sub (.nat 1) 32)) (.nat (.sub (.nat 1) 11))),
([eql 32 (wx (.add 11 (c 1))),eql 33 (.add (.nat 12) (c 8)),eql 12 (.mul (c 8) 11),leq (c 0) 11,lss 11 (.nat 1),leq 1 (c 64)],eql 33 (.mul (c 8) 32)),
([eql 32 (wx (.add 11 (c 1))),leq (c 0) 11,lss 11 (.nat 1),leq 1 (c 64)],leq (c 0) 32),
([eql 32 (wx (.add 11 (c 1))),leq (c 0) 11,lss 11 (.nat 1)],leq 32 (.nat 1)),
([],leq (c 0) (.mn (.nat 12) (c 65535))),
([],leq (.mn (.nat 12) (c 65535)) (.nat 12)),
([],leq (.add (c 22) (.nat (.sub (.mn (.nat 12) (c 65535)) (c 0)))) (c 4294967296)),
([],leq (c 0) (.add (c 22) (.nat (.sub (.mn (.nat 12) (c 65535)) (c 0))))),
([],leq (.add (c 22) (.nat (.sub (.mn (.nat 12) (c 65535)) (c 0)))) (c 1000000)),
([eql 5071 (.add (.add (c 22) (.nat (.sub (.mn (.nat 12) (c 65535)) (c 0)))) (c 4))],leq (c 0) 5071),
([eql 5071 (.add (.add (c 22) (.nat (.sub (.mn (.nat 12) (c 65535)) (c 0)))) (c 4))],leq 5071 (c 1000000))]:=dS
theorem a9f:ah5.ok Tryz.prog:=ao (.cons Dp .nil) rN ajs [3,4,5,2,2,0,0,0,0,0,0,0,0,0,0,0,0,0,0,0,0,0,0,0,0,0,6,7,8,9,10,11,0,0,0,0,0,0,0,0,0,0,0,0,0,0,0,0,0,0,0,0,0,0,0,0,0,0,0,0,0,0,0,0,0,0,0,0,0,0,0,0,0,0,0,0,0,0,0,0,0,0,0,0,0,0,0,0,0,0,0,0,0,0,0,0,0,0,0,0,0,0,0,12,13,0,0,0,0,0,0,0,0,14,0,15,16,17,18] (by kernel_rfl)
theorem vD:acu.ok Tryz.prog:=ao (.cons a94 .nil) rN .nil [2,2,2,2,2,2,0,0] (by kernel_rfl)
theorem ais:ab [([],leq (c 0) (wx (.rem (.wrap .u64 (.add 77 (c 1))) (c 2))))]:=by
 repeat' (first|exact .nil|refine au ?_ ?_)
 all_goals(
  intro ρ;(intro h;simp only[vS,IE.den,BE.den,LE.den]at h⊢;revert h;(try simp only[and_imp]);intros)
  exact(oB _).1)
theorem ait:ab [([],lss (wx (.rem (.wrap .u64 (.add 77 (c 1))) (c 2))) (c 2))]:=by
 repeat' (first|exact .nil|refine au ?_ ?_)
 all_goals(
  intro ρ;(intro h;simp only[vS,IE.den,BE.den,LE.den]at h⊢;revert h;(try simp only[and_imp]);intros)
  exact(oB _).2)
theorem aiu:ab [([eql (wx (.rem (.wrap .u64 (.add 77 (c 1))) (c 2))) (c 0)],leq (wx (.rem (.wrap .u64 (.add 77 (c 1))) (c 2))) (c 1))]:=dS
theorem aiv:ab [([fb (nx (ex (wx (.rem (.wrap .u64 (.add 77 (c 1))) (c 2))) (c 0)))],leq (wx (.rem (.wrap .u64 (.add 77 (c 1))) (c 2))) (c 1))]:=by
 repeat' (first|exact .nil|refine au ?_ ?_)
 all_goals(
  intro ρ;(intro h;simp only[vS,IE.den,BE.den,LE.den]at h⊢;revert h;(try simp only[and_imp]);intros)
  have:=(oB (ρ.i 77+1)).2
  omega)
theorem Rj:acv.ok Tryz.prog:=ao (.cons vD (.cons a9f .nil)) rN (a5t ais (a5t ait (a5t aiu aiv))) [3,4,3,4,2,2,2,2,2,2,3,5,2,2,2,2,2,2,3,6] (by kernel_rfl)
theorem aje:ab [([leq 35 (c 1)],lss 35 (c 2)),
([],leq (c 0) (.mx 41 (c 0))),
([],leq (c 0) (.sub (.mx 41 (c 0)) (c 0))),
([],leq (c 0) (.mn (.mx 41 (c 0)) (.nat 33))),
([],leq (.mn (.mx 41 (c 0)) (.nat 33)) (.nat 33)),
([],leq (.nat 33) (.nat 33)),
([eql 53 (.sub (.mx 41 (c 0)) (c 0))],leq (c 0) 53),
([],leq (c 0) (.mx 41 (c 0))),
([],leq (c 0) (.sub (.mx 41 (c 0)) (c 0))),
([],leq (c 0) (.mn (.mx 41 (c 0)) (.nat 33))),
([],leq (.mn (.mx 41 (c 0)) (.nat 33)) (.nat 33)),
([],leq (.nat 33) (.nat 33)),
([eql 57 (.sub (.mx 41 (c 0)) (c 0))],leq (c 0) 57),
([],leq (c 0) (.add (.nat 53) (.nat (.sub (.nat 33) (.mn (.mx 41 (c 0)) (.nat 33)))))),
([],leq (c 0) (.add (.nat 57) (.nat (.sub (.nat 33) (.mn (.mx 41 (c 0)) (.nat 33))))))]:=dS
theorem ajf:ab [([fb (nx (ix (nx 36) (.lit true) (.cmp .geq (.mx 41 (c 0)) (.nat 31))))],leq (.mx 41 (c 0)) (.nat 31)),
([fb (nx (ix (nx 36) (.lit true) (.cmp .geq (.mx 41 (c 0)) (.nat 31)))),leq 31 (c 1000000)],leq (.sub (.mx 41 (c 0)) (c 0)) (c 1000000)),
([fb (nx (ix (nx 36) (.lit true) (.cmp .geq (.mx 41 (c 0)) (.nat 32))))],leq (.mx 41 (c 0)) (.nat 32)),
([fb (nx (ix (nx 36) (.lit true) (.cmp .geq (.mx 41 (c 0)) (.nat 32)))),leq 32 (c 1000000)],leq (.sub (.mx 41 (c 0)) (c 0)) (c 1000000))]:=s8
theorem ajg:ab [([eql 53 (.sub (.mx 41 (c 0)) (c 0)),fb (nx (ix (nx 36) (.lit true) (.cmp .geq (.mx 41 (c 0)) (.nat 31)))),leq 31 (c 1000000),leq 33 (c 1000000)],leq (.add (.nat 53) (.nat (.sub (.nat 33) (.mn (.mx 41 (c 0)) (.nat 33))))) (c 4294967296)),
([eql 57 (.sub (.mx 41 (c 0)) (c 0)),fb (nx (ix (nx 36) (.lit true) (.cmp .geq (.mx 41 (c 0)) (.nat 32)))),leq 32 (c 1000000),leq 33 (c 1000000)],leq (.add (.nat 57) (.nat (.sub (.nat 33) (.mn (.mx 41 (c 0)) (.nat 33))))) (c 4294967296)),
([leq 31 (c 1000000),leq 33 (c 1000000),eql 53 (.sub (.mx 41 (c 0)) (c 0)),fb (nx (ix (nx 36) (.lit true) (.cmp .geq (.mx 41 (c 0)) (.nat 31))))],leq (.add (.nat 53) (.nat (.sub (.nat 33) (.mn (.mx 41 (c 0)) (.nat 33))))) (c 1000000)),
([leq 32 (c 1000000),leq 33 (c 1000000),eql 57 (.sub (.mx 41 (c 0)) (c 0)),fb (nx (ix (nx 36) (.lit true) (.cmp .geq (.mx 41 (c 0)) (.nat 32))))],leq (.add (.nat 57) (.nat (.sub (.nat 33) (.mn (.mx 41 (c 0)) (.nat 33))))) (c 1000000))]:=kj
theorem a28:afc.ok Tryz.prog:=ao (.cons ns .nil) rN (a5t aje (a5t ajf ajg)) [2,3,0,4,18,5,19,6,7,8,22,9,0,4,20,5,21,6,7,8,23,15,2,3,2,2,2,2,2,2,2,2,16,24,2,2,2,2,2,2,2,2,2,2,2,2,2,2,2,2,17,25,2,2,2,2] (by kernel_rfl)
theorem ajh:ab [([eql 11 (c 0),eql 12 (c 0)],eql 12 11),
([eql 11 (c 0)],leq (c 0) 11),
([eql 11 (c 0)],leq 11 (.nat 0)),
([eql 12 11,lss 11 (.nat 0),leq 0 (c 1000000)],leq (.add (.nat 12) (c 1)) (c 4294967296)),
([eql 12 11,leq (c 0) 11],leq (c 0) 12),
([eql 16 (wx (.add 11 (c 1))),lss 11 (.nat 0),leq 0 (c 1000000)],lss (.nat (.sub (.nat 0) 16)) (.nat (.sub (.nat 0) 11))),
([eql 16 (wx (.add 11 (c 1))),eql 17 (.add (.nat 12) (c 1)),eql 12 11,leq (c 0) 11,leq 11 (.nat 0),leq 0 (c 1000000)],eql 17 16),
([eql 16 (wx (.add 11 (c 1))),leq (c 0) 11,leq 11 (.nat 0),leq 0 (c 1000000)],leq (c 0) 16),
([eql 16 (wx (.add 11 (c 1))),leq (c 0) 11,lss 11 (.nat 0)],leq 16 (.nat 0)),
([eql 5011 (c 0)],leq (c 0) 5011),
([eql 5011 (c 0)],leq 5011 (.nat 12)),
([eql 5014 (wx (.add 5011 (c 1))),lss 5011 (.nat 12),eql 12 11,leq 11 (.nat 0),leq 0 (c 1000000)],lss (.nat (.sub (.nat 12) 5014)) (.nat (.sub (.nat 12) 5011))),
([eql 5014 (wx (.add 5011 (c 1))),leq (c 0) 5011,lss 5011 (.nat 12),eql 12 11,leq 11 (.nat 0),leq 0 (c 1000000)],leq (c 0) 5014),
([eql 5014 (wx (.add 5011 (c 1))),leq (c 0) 5011,lss 5011 (.nat 12)],leq 5014 (.nat 12))]:=dS
theorem a2j:afd.ok Tryz.prog:=ao aS.nil qx ajh [3,4,5,2,2,0,6,7,8,9,10,11,12,13,2,2,0,14,15,16] (by kernel_rfl)
theorem aiw:ab [([eql 85 (c 0),eql 86 (c 0)],rx 38 [86,85,40,8] [86,40]),
([rx 5 [95,63,(gx 40 85 0)] [63]],lss 95 (.nat 63)),
([rx 5 [95,63,(gx 40 85 0)] [63],fb (nx (lx 95 (c 0)))],lss (.nat 95) (.nat 63)),
([rx 38 [86,85,40,8] [86,40]],leq (c 0) 86),
([rx 38 [86,85,40,8] [86,40],lss 85 (.nat 40),rx 37 [40,8] [40],leq 8 (c 64)],leq 86 (c 1000000)),
([leq 87 85,lss 85 (.nat 40),rx 37 [40,8] [40],leq 8 (c 64)],leq (.add (.nat 87) (c 1)) (c 4294967296)),
([rx 38 [86,85,40,8] [86,40],lss 85 (.nat 40),rx 37 [40,8] [40],leq 8 (c 64)],leq (.add (.nat 86) (c 1)) (c 4294967296)),
([rx 38 [86,85,40,8] [86,40]],leq (c 0) 86),
([rx 38 [86,85,40,8] [86,40],lss 85 (.nat 40),rx 37 [40,8] [40],leq 8 (c 64)],leq 86 (c 1000000)),
([leq 87 85,lss 85 (.nat 40),rx 37 [40,8] [40],leq 8 (c 64)],leq (.add (.nat 87) (c 1)) (c 4294967296)),
([rx 38 [86,85,40,8] [86,40],lss 85 (.nat 40),rx 37 [40,8] [40],leq 8 (c 64)],leq (.add (.nat 86) (c 1)) (c 4294967296))]:=kj
theorem aix:ab [([eql 87 (c 0)],leq (c 0) 87),
([eql 85 (c 0),eql 87 (c 0)],leq 87 85),
([eql 85 (c 0)],leq (c 0) 85),
([eql 85 (c 0)],leq 85 (.nat 40)),
([fb (nx (lx 95 (c 0)))],leq (c 0) 95),
([eql 112 87,leq (c 0) 87],leq (c 0) 112),
([eql 110 (wx (.add 85 (c 1))),leq (c 0) 85,lss 85 (.nat 40)],leq 110 (.nat 40)),
([eql 116 (.add (.nat 87) (c 1))],leq (c 0) 116),
([eql 114 (wx (.add 85 (c 1))),leq (c 0) 85,lss 85 (.nat 40)],leq 114 (.nat 40)),
([eql 120 87,leq (c 0) 87],leq (c 0) 120),
([eql 118 (wx (.add 85 (c 1))),leq (c 0) 85,lss 85 (.nat 40)],leq 118 (.nat 40)),
([eql 124 (.add (.nat 87) (c 1))],leq (c 0) 124),
([eql 122 (wx (.add 85 (c 1))),leq (c 0) 85,lss 85 (.nat 40)],leq 122 (.nat 40)),
([eql 128 87,leq (c 0) 87],leq (c 0) 128),
([eql 126 (wx (.add 85 (c 1))),leq (c 0) 85,lss 85 (.nat 40)],leq 126 (.nat 40))]:=dS
theorem aiy:ab [([eql 110 (wx (.add 85 (c 1))),lss 85 (.nat 40),rx 37 [40,8] [40],leq 8 (c 64)],lss (.nat (.sub (.nat 40) 110)) (.nat (.sub (.nat 40) 85))),
([eql 110 (wx (.add 85 (c 1))),eql 112 87,leq 87 85,lss 85 (.nat 40),rx 37 [40,8] [40],leq 8 (c 64)],leq 112 110),
([eql 110 (wx (.add 85 (c 1))),leq (c 0) 85,lss 85 (.nat 40),rx 37 [40,8] [40],leq 8 (c 64)],leq (c 0) 110),
([eql 114 (wx (.add 85 (c 1))),lss 85 (.nat 40),rx 37 [40,8] [40],leq 8 (c 64)],lss (.nat (.sub (.nat 40) 114)) (.nat (.sub (.nat 40) 85))),
([eql 114 (wx (.add 85 (c 1))),eql 116 (.add (.nat 87) (c 1)),leq 87 85,leq (c 0) 85,lss 85 (.nat 40),rx 37 [40,8] [40],leq 8 (c 64)],leq 116 114),
([eql 114 (wx (.add 85 (c 1))),leq (c 0) 85,lss 85 (.nat 40),rx 37 [40,8] [40],leq 8 (c 64)],leq (c 0) 114),
([eql 118 (wx (.add 85 (c 1))),lss 85 (.nat 40),rx 37 [40,8] [40],leq 8 (c 64)],lss (.nat (.sub (.nat 40) 118)) (.nat (.sub (.nat 40) 85))),
([eql 118 (wx (.add 85 (c 1))),eql 120 87,leq 87 85,lss 85 (.nat 40),rx 37 [40,8] [40],leq 8 (c 64)],leq 120 118),
([eql 118 (wx (.add 85 (c 1))),leq (c 0) 85,lss 85 (.nat 40),rx 37 [40,8] [40],leq 8 (c 64)],leq (c 0) 118),
([eql 122 (wx (.add 85 (c 1))),lss 85 (.nat 40),rx 37 [40,8] [40],leq 8 (c 64)],lss (.nat (.sub (.nat 40) 122)) (.nat (.sub (.nat 40) 85))),
([eql 122 (wx (.add 85 (c 1))),eql 124 (.add (.nat 87) (c 1)),leq 87 85,leq (c 0) 85,lss 85 (.nat 40),rx 37 [40,8] [40],leq 8 (c 64)],leq 124 122),
([eql 122 (wx (.add 85 (c 1))),leq (c 0) 85,lss 85 (.nat 40),rx 37 [40,8] [40],leq 8 (c 64)],leq (c 0) 122),
([eql 126 (wx (.add 85 (c 1))),lss 85 (.nat 40),rx 37 [40,8] [40],leq 8 (c 64)],lss (.nat (.sub (.nat 40) 126)) (.nat (.sub (.nat 40) 85))),
([eql 126 (wx (.add 85 (c 1))),eql 128 87,leq 87 85,lss 85 (.nat 40),rx 37 [40,8] [40],leq 8 (c 64)],leq 128 126),
([eql 126 (wx (.add 85 (c 1))),leq (c 0) 85,lss 85 (.nat 40),rx 37 [40,8] [40],leq 8 (c 64)],leq (c 0) 126)]:=lm
theorem aiz:ab [([eql 110 (wx (.add 85 (c 1))),eql 111 86,rx 0 [] [111,86],rx 38 [86,85,40,8] [86,40],lss 85 (.nat 40),rx 37 [40,8] [40],leq 8 (c 64)],rx 38 [111,110,40,8] [111,40]),
([eql 114 (wx (.add 85 (c 1))),eql 115 86,rx 0 [] [115,86],rx 38 [86,85,40,8] [86,40],lss 85 (.nat 40),rx 37 [40,8] [40],leq 8 (c 64)],rx 38 [115,114,40,8] [115,40]),
([eql 122 (wx (.add 85 (c 1))),eql 123 86,rx 0 [] [123,86],rx 38 [86,85,40,8] [86,40],lss 85 (.nat 40),rx 37 [40,8] [40],leq 8 (c 64)],rx 38 [123,122,40,8] [123,40])]:=va4
theorem aj0:ab [([eql 118 (wx (.add 85 (c 1))),eql 119 (.add (.nat 86) (c 1)),rx 0 [] [119,(ux (ux 86 (.nat 86) 0 (gx 40 85 0)) (.nat 86) 1 (.mn (.mx (.mx (gx 40 85 1) (c 0)) (c 0)) (c 1048576)))],eql 120 87,rx 5 [95,63,(gx 40 85 0)] [63],rx 38 [86,85,40,8] [86,40],leq (c 0) 87,leq 87 85,leq (c 0) 85,leq 85 (.nat 40),leq (c 0) 63,leq 63 (c 1000000),fb (nx (.cmp .gtr (wx (.add 98 (.mn (.mx (.mx (gx 40 85 1) (c 0)) (c 0)) (c 1048576)))) (.mn (.mx 41 (c 0)) (c 1048576)))),lss 95 (c 0),fb (nx (ix (ix (.cmp .gtr 91 (c 1)) (.lit true) (lx (gx 40 85 0) (c 0))) (.lit true) (.cmp .geq (gx 40 85 0) (c 64)))),lss 85 (.nat 40),rx 37 [40,8] [40],leq (c 0) 8,leq 8 (c 64)],rx 38 [119,118,40,8] [119,40])]:=by
 repeat' (first|exact .nil|refine au ?_ ?_)
 all_goals(
  intro ρ;(intro h;simp only[vS,IE.den,BE.den,LE.den]at h⊢;revert h;(try simp only[and_imp]);intros)
  have hi:ρ.i 85<ρ.i 40:=by((try simp only[IntKind.wrap_i64,Int.ofNat_toNat]at*);omega)
  have ha:=(by assumption:ac 34 [ρ.i 40,ρ.i 8] [ρ.l 40])
  have hz:=ha
  simp only[ac,tE]at hz
  rw[show ρ.l 119=ah (ah (ρ.l 86) (((ρ.i 86).toNat:Nat):Int) 0 (ρ.l 40 (ρ.i 85).toNat 0)) (((ρ.i 86).toNat:Nat):Int) 1 (min (max (max (ρ.l 40 (ρ.i 85).toNat 1) 0) 0) 1048576)by assumption]
  exact vu (k:=ρ.i 86) (i:=ρ.i 85) (by assumption) (by assumption) (by assumption) hi (by((try simp only[IntKind.wrap_i64,Int.ofNat_toNat]at*);omega)) (by assumption))
theorem aj1:ab [([eql 126 (wx (.add 85 (c 1))),eql 127 (.add (.nat 86) (c 1)),rx 0 [] [127,(ux (ux 86 (.nat 86) 0 (gx 40 85 0)) (.nat 86) 1 (.mn (.mx (.mx (gx 40 85 1) (gx 63 95 1)) (c 0)) (c 1048576)))],eql 128 87,rx 5 [95,63,(gx 40 85 0)] [63],rx 38 [86,85,40,8] [86,40],leq (c 0) 87,leq 87 85,leq (c 0) 85,leq 85 (.nat 40),leq (c 0) 63,leq 63 (c 1000000),fb (nx (.cmp .gtr (wx (.add 104 (.mn (.mx (.mx (gx 40 85 1) (gx 63 95 1)) (c 0)) (c 1048576)))) (.mn (.mx 41 (c 0)) (c 1048576)))),fb (nx (lx 95 (c 0))),fb (nx (ix (ix (.cmp .gtr 91 (c 1)) (.lit true) (lx (gx 40 85 0) (c 0))) (.lit true) (.cmp .geq (gx 40 85 0) (c 64)))),lss 85 (.nat 40),rx 37 [40,8] [40],leq (c 0) 8,leq 8 (c 64)],rx 38 [127,126,40,8] [127,40])]:=by
 repeat' (first|exact .nil|refine au ?_ ?_)
 all_goals(
  intro ρ;(intro h;simp only[vS,IE.den,BE.den,LE.den]at h⊢;revert h;(try simp only[and_imp]);intros)
  have hi:ρ.i 85<ρ.i 40:=by((try simp only[IntKind.wrap_i64,Int.ofNat_toNat]at*);omega)
  have ha:=(by assumption:ac 34 [ρ.i 40,ρ.i 8] [ρ.l 40])
  have hz:=ha
  simp only[ac,tE]at hz
  rw[show ρ.l 127=ah (ah (ρ.l 86) (((ρ.i 86).toNat:Nat):Int) 0 (ρ.l 40 (ρ.i 85).toNat 0)) (((ρ.i 86).toNat:Nat):Int) 1 (min (max (max (ρ.l 40 (ρ.i 85).toNat 1) (ρ.l 63 (ρ.i 95).toNat 1)) 0) 1048576)by assumption]
  exact vu (k:=ρ.i 86) (i:=ρ.i 85) (by assumption) (by assumption) (by assumption) hi (by((try simp only[IntKind.wrap_i64,Int.ofNat_toNat]at*);omega)) (by assumption))
theorem aj2:ab [([rx 37 [40,8] [40],rx 38 [86,85,40,8] [86,40],leq 85 (.nat 40)],rx 7 [86,8] [86])]:=qR
theorem RN:acw.ok Tryz.prog:=ao (.cons vD (.cons xC (.cons a2j .nil))) rN (a5t aiw (a5t aix (a5t aiy (a5t aiz (a5t aj0 (a5t aj1 aj2)))))) [3,14,15,16,17,2,2,0,18,4,5,6,7,8,2,9,6,6,7,8,2,9,6,29,44,19,30,31,20,32,45,21,33,34,22,35,47,23,36,37,24,38,46,25,39,40,26,41,48,27,42,43,28,49] (by kernel_rfl)
theorem ai3:ab [([leq 9 (c 64)],leq 9 (c 1000000))]:=dS
theorem Jb:a7f.ok Tryz.prog:=ao (.cons Iw (.cons Rj .nil)) rN ai3 [3,2,2,2,2,2,2,2,2,2,2,2,2,2,2,2,2] (by kernel_rfl)
theorem ahp:ab [([eql 231 (c 0),eql 232 (c 0)],rx 37 [232,231] [232]),
([rx 37 [232,231] [232],leq 231 (.nat 8),leq 8 (c 64)],leq (.add (.nat 232) (c 1)) (c 4294967296)),
([rx 37 [232,231] [232]],leq (c 0) 232),
([rx 37 [232,231] [232],leq 231 (.nat 8),leq (c 0) 8],rx 37 [232,8] [232])]:=kj
theorem ahq:ab [([rx 0 [] [233,3],rx 18 [7] [3]],rx 18 [7] [233]),
([rx 0 [] [242,237],rx 18 [7] [237]],rx 18 [7] [242]),
([rx 0 [] [245,233],rx 18 [7] [233]],rx 18 [7] [245])]:=va8
theorem ahr:ab [([eql 231 (c 0)],leq (c 0) 231),
([eql 231 (c 0)],leq 231 (.nat 8)),
([eql 240 (wx (.add 231 (c 1))),lss 231 (.nat 8),leq 8 (c 64)],lss (.nat (.sub (.nat 8) 240)) (.nat (.sub (.nat 8) 231))),
([eql 240 (wx (.add 231 (c 1))),leq (c 0) 231,leq 231 (.nat 8),leq 8 (c 64)],leq (c 0) 240),
([eql 240 (wx (.add 231 (c 1))),leq (c 0) 231,lss 231 (.nat 8)],leq 240 (.nat 8)),
([eql 243 (wx (.add 231 (c 1))),lss 231 (.nat 8),leq 8 (c 64)],lss (.nat (.sub (.nat 8) 243)) (.nat (.sub (.nat 8) 231))),
([eql 243 (wx (.add 231 (c 1))),leq (c 0) 231,leq 231 (.nat 8),leq 8 (c 64)],leq (c 0) 243),
([eql 243 (wx (.add 231 (c 1))),leq (c 0) 231,lss 231 (.nat 8)],leq 243 (.nat 8))]:=dS
theorem ahs:ab [([leq (c 0) 231,lss 231 (.nat 8),rx 12 [8,101,104,105,112,7,102,147,115] [2]],leq (c 0) (gx 2 231 14)),
([leq (c 0) 231,lss 231 (.nat 8),rx 12 [8,101,104,105,112,7,102,147,115] [2]],lss (gx 2 231 14) (.nat 7)),
([leq (c 0) 231,lss 231 (.nat 8),rx 12 [8,101,104,105,112,7,102,147,115] [2]],lss (.nat (gx 2 231 14)) (.nat 7)),
([leq (c 0) 231,lss 231 (.nat 8),rx 12 [8,101,104,105,112,7,102,147,115] [2]],lss (gx 2 231 14) 7)]:=by
  repeat' (first|exact .nil|refine au ?_ ?_)
  all_goals(
   intro ρ h;simp only[vS,IE.den,BE.den,LE.den]at h⊢
   obtain⟨h0,h1,h2⟩:=h
   try simp only[IntKind.wrap_i64]at*
   first|have y02:=h2.1 (ρ.i 231).toNat (by omega)|have y02:=h
   try simp only[aC,fR,xh,XE,ae]at y02⊢
   omega)
theorem ahu:ab [([eql 240 (wx (.add 231 (c 1))),eql 241 (.add (.nat 232) (c 1)),rx 0 [] [241,(ux (ux 232 (.nat 232) 0 231) (.nat 232) 1 235)],rx 0 [] [242,237],rx 18 [7] [237],rx 37 [232,231] [232],rx 18 [7] [233],leq (c 0) 231,leq 231 (.nat 8),fb (.cmp .neq (gx 2 231 1) (c 0)),lss 231 (.nat 8),leq (c 0) 8,leq 8 (c 64),rx 16 [101,102,104,105,106,107,108,109,110,111,112,8,7,5,6] [],rx 12 [8,101,104,105,112,7,102,147,115] [2],rx 13 [8,147,115] [2],rx 18 [7] [3]],rx 37 [241,240] [241])]:=by
 repeat' (first|exact .nil|refine au ?_ ?_)
 all_goals(
  intro ρ;(intro h;simp only[vS,IE.den,BE.den,LE.den]at h⊢;revert h;(try simp only[and_imp]);intros)
  rw[show ρ.l 241=ah (ah (ρ.l 232) (((ρ.i 232).toNat:Nat):Int) 0 (ρ.i 231)) (((ρ.i 232).toNat:Nat):Int) 1 (ρ.i 235)by assumption]
  exact a8l (m:=ρ.i 232) (i:=ρ.i 231) (by assumption) (by assumption) (by((try simp only[IntKind.wrap_i64,Int.ofNat_toNat]at*);omega)) (by assumption))
theorem ahv:ab [([eql 243 (wx (.add 231 (c 1))),eql 244 232,rx 0 [] [244,232],rx 0 [] [245,233],rx 37 [232,231] [232],rx 18 [7] [233],leq (c 0) 231,leq 231 (.nat 8),fb (nx (.cmp .neq (gx 2 231 1) (c 0))),lss 231 (.nat 8),leq (c 0) 8,leq 8 (c 64),rx 16 [101,102,104,105,106,107,108,109,110,111,112,8,7,5,6] [],rx 12 [8,101,104,105,112,7,102,147,115] [2],rx 13 [8,147,115] [2],rx 18 [7] [3]],rx 37 [244,243] [244])]:=by
 repeat' (first|exact .nil|refine au ?_ ?_)
 all_goals(
  intro ρ;(intro h;simp only[vS,IE.den,BE.den,LE.den]at h⊢;revert h;(try simp only[and_imp]);intros)
  rw[show ρ.l 244=ρ.l 232 by assumption,show ρ.i 244=ρ.i 232 by assumption]
  exact Z6 (i:=ρ.i 231) (by assumption) (by((try simp only[IntKind.wrap_i64,Int.ofNat_toNat]at*);omega)))
theorem ahw:ab [([leq (c 0) 8,leq 8 (c 64),rx 16 [101,102,104,105,106,107,108,109,110,111,112,8,7,5,6] [],rx 12 [8,101,104,105,112,7,102,147,115] [2],rx 13 [8,147,115] [2],rx 18 [7] [3],rx 15 [8,8,(c 1)] [5263,2],rx 7 [5242,8] [5242],rx 37 [232,231] [232],rx 18 [7] [233],leq (c 0) 231,leq 231 (.nat 8),eql 115 (c 2),fb (nx (lx 231 (.nat 8)))],rx 12 [8,101,104,105,112,7,102,(c 2),115] [5263]),
([leq (c 0) 8,leq 8 (c 64),rx 16 [101,102,104,105,106,107,108,109,110,111,112,8,7,5,6] [],rx 12 [8,101,104,105,112,7,102,147,115] [2],rx 13 [8,147,115] [2],rx 18 [7] [3],rx 15 [8,8,(c 1)] [5263,2],rx 7 [5242,8] [5242],rx 37 [232,231] [232],rx 18 [7] [233],leq (c 0) 231,leq 231 (.nat 8),fb (nx (ex 115 (c 2))),fb (nx (lx 231 (.nat 8)))],rx 12 [8,101,104,105,112,7,102,(c 1),115] [5263])]:=by
  repeat' (first|exact .nil|refine au ?_ ?_)
  all_goals(
   intro ρ;(intro h;simp only[vS,IE.den,BE.den,LE.den]at h⊢;revert h;(try simp only[and_imp]);intros)
   exact sb (l0:=ρ.l 2) (p:=1) (mode:=ρ.i 147) (by assumption) (by assumption) (by omega) (by omega))
theorem ahy:ab [([leq (c 0) 8,leq 8 (c 64),rx 16 [101,102,104,105,106,107,108,109,110,111,112,8,7,5,6] [],rx 12 [8,101,104,105,112,7,102,147,115] [2],rx 13 [8,147,115] [2],rx 18 [7] [3],rx 15 [8,8,(c 1)] [5263,2],rx 7 [5242,8] [5242],rx 37 [232,231] [232],rx 18 [7] [233],leq (c 0) 231,leq 231 (.nat 8),eql 115 (c 2),fb (nx (lx 231 (.nat 8)))],rx 13 [8,(c 2),115] [5263]),
([leq (c 0) 8,leq 8 (c 64),rx 16 [101,102,104,105,106,107,108,109,110,111,112,8,7,5,6] [],rx 12 [8,101,104,105,112,7,102,147,115] [2],rx 13 [8,147,115] [2],rx 18 [7] [3],rx 15 [8,8,(c 1)] [5263,2],rx 7 [5242,8] [5242],rx 37 [232,231] [232],rx 18 [7] [233],leq (c 0) 231,leq 231 (.nat 8),fb (nx (ex 115 (c 2))),fb (nx (lx 231 (.nat 8)))],rx 13 [8,(c 1),115] [5263])]:=by
  repeat' (first|exact .nil|refine au ?_ ?_)
  all_goals(
   intro ρ;(intro h;simp only[vS,IE.den,BE.den,LE.den]at h⊢;revert h;(try simp only[and_imp]);intros)
   exact tT (l0:=ρ.l 2) (p:=1) (mode:=ρ.i 147) (by assumption) (by assumption) (.inl (by omega)))
theorem ahz:ab [([rx 15 [8,8,(c 1)] [5263,2]],rx 14 [8] [2,5263]),
([rx 15 [8,8,(c 1)] [5263,2]],rx 14 [8] [2,5263])]:=by
  repeat' (first|exact .nil|refine au ?_ ?_)
  all_goals(
   intro ρ h;simp only[vS,IE.den,BE.den,LE.den]at h⊢
   have h0:=h
   try simp only[IntKind.wrap_i64]at*
   intro a ha
   first|have xa0:=h0 a ha|have xa0:=h
   try simp only[aC,fR,xh,XE,ae]at xa0⊢
   grind)
theorem Eu:Y4.ok Tryz.prog:=ao (.cons a28 (.cons De (.cons RN (.cons Ob .nil)))) rN (a5t ahp (a5t ahq (a5t ahr (a5t ahs (a5t ahu (a5t ahv (a5t ahw (a5t ahy ahz)))))))) [3,7,10,11,2,2,0,0,0,18,19,20,0,0,18,21,4,5,12,22,8,13,14,15,23,9,16,17,6,24,26,28,0,2,2,2,2,2,2,2,2,2,2,25,27,28,0,2,2,2,2,2,2,2,2,2,2] (by kernel_rfl)
def j5(m l:Nat):F:=.imp (fe (v m) (c 0)) (eql (v l) (c 0))
def afe:List (Nat×SV):=CW++jch++CX++[(28,.b (.var 228)),(29,iv 229),(45,iw 245),(46,.lst 214),(47,iv 247)]
def aff(l n:Nat)(own:Bool:=false):aO×aY:=bJ 37 [ki] l n own
def acx:List F:=base++[ff 3,fG 9,leq (c 0) (v 9),leq (v 9) (c 1000000),j5 147 9]++jWF++bc 14++bc 16
def aha:af:=[wH [],aT 2,bq 3,CV,qQ,bx 9 9]++jW++[cI 14 14,uo,gW]
def a7g:bg:={f:=28,M:=200,args:=[W,.lst 16],H0:=aha,pre:=acx,N:=300,t:=.lf ⟨[iU 202 (v 247) (v 115),XT 202 (v 247) (v 115),a75 2 202,ff 203,fG 209,leq (c 0) (v 209),leq (v 209) (c 1000000),j5 247 209]++a7e++[eql (v 214) (v 14),.rel XP [v 16,v 8] [.var 202,.var 2],.imp (fe (v 16) (c 0)) (.be (c6 (fe (v 247) (v 147)) (c6 (.eqb (.var 228) (.var 128)) (fe (v 229) (v 129)))))],[],.lst 217,[wH afe,aT 202,bq 203,bx 209 209,bA 211 211,bA 212 212,bA 213 213,cI 214 214,aff 217 217 true]⟩}
def Y5:cj:=fun f r b=>
 bif Nat.beq f 28&&Nat.beq r 4 then some {items:=fun _=>[.ri 15,.rl 6 true 37 [ki],.cb 1 28,.ci 1 29,.ci 1 30,.ci 1 31,.ci 1 32,.cl 1 33 false 153 [ki,ki],.cl 1 38 false 5 [kb],.cl 1 39 false 5 [kb],.ci 1 40,.cl 1 41 false 5 [kb],.cb 1 42,.ci 1 43,.ci 1 44,.ci 1 45,.cl 1 46 false 72 [kw],.ci 1 47,.fm 2,.fm 3],inv:=[.rel un (fun n=>[v 8,v 101,v 104,v 105,v 112,v 7,v 102,v (n+17),v 115]) (fun n=>[.var (n+18)]),.rel Nj (fun n=>[v 8,v (n+17),v 115]) (fun n=>[.var (n+18)]),.rel a72 (fun _=>[v 8]) (fun n=>[.var 2,.var (n+18)]),.rel tG (fun _=>[v 7]) (fun n=>[.var (n+19)]),.rel ee (fun n=>[v (n+7),v 8]) (fun n=>[.var (n+7)]),.rel XP (fun n=>[v n,v 8]) (fun n=>[.var (n+18),.var 2]),.be fun n=> .ite (fe (v (n+17)) (c 0)) (fe (v (n+7)) (c 0)) (.lit true),.be fun n=> .ite (fe (v n) (c 0)) (c6 (fe (v (n+17)) (v 147)) (c6 (.eqb (.var (n+2)) (.var 128)) (fe (v (n+3)) (v 129)))) (.lit true),.be fun n=> .cmp .leq (c 0) (v (n+8)),.be fun n=> .cmp .leq (v (n+8)) (c 1000000),.be fun n=> .cmp .leq (c 0) (v (n+9)),.be fun n=> .cmp .leq (v (n+9)) (c 1000000),.be fun n=> .cmp .leq (c 0) (v (n+11)),.be fun n=> .cmp .leq (v (n+11)) (c 1000000),.be fun n=> .cmp .leq (c 0) (v (n+10)),.be fun n=> .cmp .leq (v (n+10)) (c 1),.be fun n=> .cmp .eql (v (n+16)) (v 14),.be fun n=> .cmp .leq (c 0) (v (n+7)),.be fun n=> .cmp .leq (v (n+7)) (c 1000000),.be fun n=> .cmp .leq (c 0) (v (n+1)),.be fun n=> .cmp .leq (v (n+1)) (v n)]++co (bu b 14),mes:=fun n=> .sub (bu b 14) (v n)}
 else bif Nat.beq f 11&&Nat.beq r 5 then some {items:=fun _=>[.ri 24,.fm 2],inv:=[.rel ac9 (fun n=>[v 8,v n]) (fun n=>[.var (n+1),.var 2])]++co (bu b 23),mes:=fun n=> .sub (bu b 23) (v n)}
 else rN f r b
def acy:List F:=fN++[gN,iU 2 (v 147) (v 115),ff 3,fG 9,leq (c 0) (v 9),leq (v 9) (c 1000000),j5 147 9]++bc 10++jWF++bc 14++af2++fAt 115
def acz:af:=[wH [],bJ 89 [.ptr 3] 7 7,bJ 91 [.ptr 2] 8 8,aT 2,bq 3,ke 170,bJ 56 [ki,ki,ki,ki,ki,ki,ki] 5 5,bJ 3 [ki] 6 6]++ah1++[gW]
def ad0:List (Nat×SV):=afe++Np++[(15,iv 315),(16,iv 316),(17,iv 317),(27,iv 227),(34,iv 130),(35,iv 131),(36,iv 132),(37,.lst 9),(48,iv 248),(50,.lst 215)]
def a7h:List F:=[iU 202 (v 247) (v 315),ff 203,fG 209,leq (c 0) (v 209),leq (v 209) (c 1000000),j5 247 209]++bc 9++a7e++bc 214++fAt 315
def nP:List BE→BE
 |[]=> .lit true
 |[b]=>b
 |b::r=>c6 b (nP r)
def B(n:Nat):BE:=.var n
def nB(n:Nat):BE:=.not (.var n)
def is(n:Nat)(k:Int):BE:=fe (v n) (c k)
def afg:List F:=[
 .imp (nP [is 16 0,is 147 0,B 128,is 115 1,B 160]) (.be (nP [is 247 0,B 228,is 229 0,is 315 1])),
 .imp (nP [is 16 0,is 147 0,B 128,is 115 1,nB 160,is 129 0,is 107 2]) (.be (nP [is 247 0,B 228,is 229 1,is 315 1])),
 .imp (nP [is 16 0,is 147 0,B 128,is 115 1,nB 160,B 161,is 129 1,is 107 2,is 108 1]) (.be (nP [is 247 1,nB 228,is 315 0,is 316 2,is 317 1])),
 .imp (nP [is 16 0,is 147 1,nB 128,nB 160,B 161,is 115 0,is 116 2,is 117 1]) (.be (nP [is 247 1,nB 228,is 315 2])),
 .imp (nP [is 16 0,is 147 1,nB 128,nB 160,B 161,is 115 2]) (.be (nP [is 247 2,nB 228,is 315 2])),
 .imp (nP [is 16 0,is 147 2,nB 128,nB 160,B 161,is 115 2]) (.be (nP [is 247 2,nB 228,is 315 2]))]
def afh:bg:={f:=11,M:=200,args:=[W,inS],H0:=acz++[uo,XS,g2H],pre:=acy++bc 16,N:=450,t:=.lf ⟨a7h++[.rel ac7 [v 8,v 104,v 111,v 248] [.var 202,.var 2],.rel aei [v 8,v 102,v 105] [.var 202],.imp (c6 (BI (v 115) (c 0)) (BI (v 315) (v 115))) (.rel ka [v 8] [.var 202])]++afg,[],.lst 217,[wH ad0,aT 202,bq 203,ke 270,bx 209 209,bA 211 211,bA 212 212,bA 213 213,cI 214 214,bJ 3 [ki] 215 215,aff 217 217 true]⟩}
end Go.Proofs.YteelgjcnkhmigaaGreatDoor.K
