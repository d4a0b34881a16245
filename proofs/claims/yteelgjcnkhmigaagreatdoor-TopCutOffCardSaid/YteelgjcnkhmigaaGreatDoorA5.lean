/- Part 5 of the proofs of TopPhases, TopDoors and TopCutOff (over all inputs, no condition): the executor, and what the functions that they reach do. -/
import Derived.Test.YteelgjcnkhmigaaGreatDoorA4
set_option linter.unusedVariables false
set_option linter.unusedSimpArgs false
set_option linter.unusedSectionVars false
set_option maxHeartbeats 0
set_option maxRecDepth 100000
namespace Go.Proofs.YteelgjcnkhmigaaGreatDoor.K
open Go.RowKit Go.Proofs.YteelgjcnkhmigaaGreatDoor.E
theorem aj3:ab [([rx 0 [] [202,2],rx 12 [8,101,104,105,112,7,102,147,115] [2]],rx 12 [8,101,104,105,112,7,102,147,115] [202])]:=by
 repeat' (first|exact .nil|refine au ?_ ?_)
 all_goals(
  intro ρ h;simp only[vS,IE.den,BE.den,LE.den]at h⊢
  refine⟨fun a ha=>?_,fun a b ha hb=>?_⟩
  ·try have:=h.2.1 a ha
   simp only[h.1]
   skip
   simp only[vR]at*
   omega
  ·try have:=h.2.2 a b ha hb
   try have:=h.2.1 a ha
   try have:=h.2.1 b hb
   simp only[h.1]
   clear h
   simp only[vR]at*
   grind)
theorem aj4:ab [([eql 201 (c 0),rx 0 [] [202,2]],rx 33 [8,201,104,111,148] [202,2])]:=qR
theorem aj5:ab [([eql 203 (c 0)],leq (c 0) 203),
([eql 201 (c 0),eql 203 (c 0)],leq 203 201),
([eql 201 (c 0)],leq (c 0) 201),
([eql 201 (c 0)],leq 201 (.nat 8)),
([leq (c 0) 201],fb (.cmp .geq 201 (c 0))),
([leq (c 0) 201,lss 201 (.nat 8)],lss 201 8),
([leq 203 201,lss 201 (.nat 8),leq 8 (c 64)],leq (.add (.nat 203) (c 1)) (c 4294967296)),
([leq 203 201,lss 201 (.nat 8),leq 8 (c 64)],leq (.add (.nat 203) (c 1)) (c 4294967296)),
([eql 259 (wx (.add 201 (c 1))),lss 201 (.nat 8),leq 8 (c 64)],lss (.nat (.sub (.nat 8) 259)) (.nat (.sub (.nat 8) 201))),
([eql 261 (.add (.nat 203) (c 1))],leq (c 0) 261),
([eql 259 (wx (.add 201 (c 1))),eql 261 (.add (.nat 203) (c 1)),leq 203 201,leq (c 0) 201,lss 201 (.nat 8),leq 8 (c 64)],leq 261 259),
([eql 259 (wx (.add 201 (c 1))),leq (c 0) 201,lss 201 (.nat 8),leq 8 (c 64)],leq (c 0) 259),
([eql 259 (wx (.add 201 (c 1))),leq (c 0) 201,lss 201 (.nat 8)],leq 259 (.nat 8)),
([eql 262 (wx (.add 201 (c 1))),lss 201 (.nat 8),leq 8 (c 64)],lss (.nat (.sub (.nat 8) 262)) (.nat (.sub (.nat 8) 201))),
([eql 264 (.add (.nat 203) (c 1))],leq (c 0) 264),
([eql 262 (wx (.add 201 (c 1))),eql 264 (.add (.nat 203) (c 1)),leq 203 201,leq (c 0) 201,leq 201 (.nat 8),leq 8 (c 64)],leq 264 262),
([eql 262 (wx (.add 201 (c 1))),leq (c 0) 201,lss 201 (.nat 8),leq 8 (c 64)],leq (c 0) 262),
([eql 262 (wx (.add 201 (c 1))),leq (c 0) 201,lss 201 (.nat 8)],leq 262 (.nat 8)),
([eql 265 (wx (.add 201 (c 1))),lss 201 (.nat 8),leq 8 (c 64)],lss (.nat (.sub (.nat 8) 265)) (.nat (.sub (.nat 8) 201))),
([eql 267 203,leq (c 0) 203],leq (c 0) 267),
([eql 265 (wx (.add 201 (c 1))),eql 267 203,leq 203 201,leq 201 (.nat 8),leq 8 (c 64)],leq 267 265),
([eql 265 (wx (.add 201 (c 1))),leq (c 0) 201,leq 201 (.nat 8),leq 8 (c 64)],leq (c 0) 265),
([eql 265 (wx (.add 201 (c 1))),leq (c 0) 201,lss 201 (.nat 8)],leq 265 (.nat 8)),
([eql 268 (wx (.add 201 (c 1))),lss 201 (.nat 8),leq 8 (c 64)],lss (.nat (.sub (.nat 8) 268)) (.nat (.sub (.nat 8) 201))),
([eql 270 203,leq (c 0) 203],leq (c 0) 270),
([eql 268 (wx (.add 201 (c 1))),eql 270 203,leq 203 201,lss 201 (.nat 8),leq 8 (c 64)],leq 270 268),
([eql 268 (wx (.add 201 (c 1))),leq (c 0) 201,lss 201 (.nat 8),leq 8 (c 64)],leq (c 0) 268),
([eql 268 (wx (.add 201 (c 1))),leq (c 0) 201,lss 201 (.nat 8)],leq 268 (.nat 8)),
([eql 271 (wx (.add 201 (c 1))),lss 201 (.nat 8),leq 8 (c 64)],lss (.nat (.sub (.nat 8) 271)) (.nat (.sub (.nat 8) 201))),
([eql 273 (.add (.nat 203) (c 1))],leq (c 0) 273),
([eql 271 (wx (.add 201 (c 1))),eql 273 (.add (.nat 203) (c 1)),leq 203 201,leq (c 0) 201,lss 201 (.nat 8),leq 8 (c 64)],leq 273 271),
([eql 271 (wx (.add 201 (c 1))),leq (c 0) 201,lss 201 (.nat 8),leq 8 (c 64)],leq (c 0) 271),
([eql 271 (wx (.add 201 (c 1))),leq (c 0) 201,lss 201 (.nat 8)],leq 271 (.nat 8)),
([eql 274 (wx (.add 201 (c 1))),lss 201 (.nat 8),leq 8 (c 64)],lss (.nat (.sub (.nat 8) 274)) (.nat (.sub (.nat 8) 201))),
([eql 276 (.add (.nat 203) (c 1))],leq (c 0) 276),
([eql 274 (wx (.add 201 (c 1))),eql 276 (.add (.nat 203) (c 1)),leq 203 201,leq (c 0) 201,leq 201 (.nat 8),leq 8 (c 64)],leq 276 274),
([eql 274 (wx (.add 201 (c 1))),leq (c 0) 201,lss 201 (.nat 8),leq 8 (c 64)],leq (c 0) 274),
([eql 274 (wx (.add 201 (c 1))),leq (c 0) 201,lss 201 (.nat 8)],leq 274 (.nat 8)),
([eql 277 (wx (.add 201 (c 1))),lss 201 (.nat 8),leq 8 (c 64)],lss (.nat (.sub (.nat 8) 277)) (.nat (.sub (.nat 8) 201))),
([eql 279 203,leq (c 0) 203],leq (c 0) 279),
([eql 277 (wx (.add 201 (c 1))),eql 279 203,leq 203 201,leq 201 (.nat 8),leq 8 (c 64)],leq 279 277),
([eql 277 (wx (.add 201 (c 1))),leq (c 0) 201,leq 201 (.nat 8),leq 8 (c 64)],leq (c 0) 277),
([eql 277 (wx (.add 201 (c 1))),leq (c 0) 201,lss 201 (.nat 8)],leq 277 (.nat 8)),
([eql 280 (wx (.add 201 (c 1))),lss 201 (.nat 8),leq 8 (c 64)],lss (.nat (.sub (.nat 8) 280)) (.nat (.sub (.nat 8) 201))),
([eql 282 203,leq (c 0) 203],leq (c 0) 282),
([eql 280 (wx (.add 201 (c 1))),eql 282 203,leq 203 201,lss 201 (.nat 8),leq 8 (c 64)],leq 282 280),
([eql 280 (wx (.add 201 (c 1))),leq (c 0) 201,lss 201 (.nat 8),leq 8 (c 64)],leq (c 0) 280),
([eql 280 (wx (.add 201 (c 1))),leq (c 0) 201,lss 201 (.nat 8)],leq 280 (.nat 8)),
([leq 203 201,leq 201 (.nat 8),leq 8 (c 64)],leq 203 (c 1000000))]:=dS
theorem aj6:ab [([rx 16 [101,102,104,105,106,107,108,109,110,111,112,8,7,5,6] []],leq (c 2) 101),
([rx 16 [101,102,104,105,106,107,108,109,110,111,112,8,7,5,6] []],leq 101 (c 32)),
([fb (ix (ex 216 207) (.lit true) (ex 216 (c 0))),leq (.sub (c 0) 104) 207,rx 16 [101,102,104,105,106,107,108,109,110,111,112,8,7,5,6] []],leq (c (-8)) 216),
([fb (ix (ex 216 207) (.lit true) (ex 216 (c 0))),leq 207 104,rx 16 [101,102,104,105,106,107,108,109,110,111,112,8,7,5,6] []],leq 216 (c 8)),
([rx 16 [101,102,104,105,106,107,108,109,110,111,112,8,7,5,6] []],leq (c 2) 101),
([rx 16 [101,102,104,105,106,107,108,109,110,111,112,8,7,5,6] []],leq 101 (c 32)),
([fb (ix (ex 216 207) (.lit true) (ex 216 (c 0))),leq (.sub (c 0) 104) 207,rx 16 [101,102,104,105,106,107,108,109,110,111,112,8,7,5,6] []],leq (c (-8)) 216),
([fb (ix (ex 216 207) (.lit true) (ex 216 (c 0))),leq 207 104,rx 16 [101,102,104,105,106,107,108,109,110,111,112,8,7,5,6] []],leq 216 (c 8))]:=lm
theorem aj7:ab [([rx 32 [8,201] [206,202],rx 12 [8,101,104,105,112,7,102,147,115] [202],leq (c 0) 201,lss 201 (.nat 8)],leq (c 0) (gx 206 201 0)),
([rx 32 [8,201] [206,202],rx 12 [8,101,104,105,112,7,102,147,115] [202],leq (c 0) 201,lss 201 (.nat 8)],leq (gx 206 201 0) (.mul (.sub 101 (c 1)) (c 8))),
([rx 32 [8,201] [206,202],rx 12 [8,101,104,105,112,7,102,147,115] [202],leq (c 0) 201,lss 201 (.nat 8)],leq (c 0) (gx 206 201 3)),
([rx 32 [8,201] [206,202],rx 12 [8,101,104,105,112,7,102,147,115] [202],leq (c 0) 201,lss 201 (.nat 8)],leq (gx 206 201 3) (gx 206 201 4)),
([rx 32 [8,201] [206,202],rx 12 [8,101,104,105,112,7,102,147,115] [202],leq (c 0) 201,lss 201 (.nat 8)],leq (c 0) (gx 206 201 0)),
([rx 32 [8,201] [206,202],rx 12 [8,101,104,105,112,7,102,147,115] [202],leq (c 0) 201,lss 201 (.nat 8)],leq (c 0) (gx 206 201 3))]:=by
  repeat' (first|exact .nil|refine au ?_ ?_)
  all_goals(
   intro ρ h;simp only[vS,IE.den,BE.den,LE.den]at h⊢
   obtain⟨h0,h1,h2,h3⟩:=h
   try simp only[IntKind.wrap_i64]at*
   first|have y00:=h0 (ρ.i 201).toNat (by omega)|have y00:=h
   first|have y01:=h1.1 (ρ.i 201).toNat (by omega)|have y01:=h
   try simp only[aC,fR,xh,XE,ae]at y00 y01⊢
   omega)
theorem aj8:ab [([rx 32 [8,201] [206,202],rx 12 [8,101,104,105,112,7,102,147,115] [202],leq (c 0) 201,lss 201 (.nat 8),rx 16 [101,102,104,105,106,107,108,109,110,111,112,8,7,5,6] []],leq (c (-8)) (gx 206 201 1)),
([rx 32 [8,201] [206,202],rx 12 [8,101,104,105,112,7,102,147,115] [202],leq (c 0) 201,lss 201 (.nat 8),rx 16 [101,102,104,105,106,107,108,109,110,111,112,8,7,5,6] []],leq (gx 206 201 1) (c 8)),
([rx 32 [8,201] [206,202],rx 12 [8,101,104,105,112,7,102,147,115] [202],leq (c 0) 201,lss 201 (.nat 8),rx 16 [101,102,104,105,106,107,108,109,110,111,112,8,7,5,6] []],leq (gx 206 201 4) (c 16)),
([rx 32 [8,201] [206,202],rx 12 [8,101,104,105,112,7,102,147,115] [202],leq (c 0) 201,lss 201 (.nat 8)],leq (c 0) (gx 206 201 14)),
([rx 32 [8,201] [206,202],rx 12 [8,101,104,105,112,7,102,147,115] [202],leq (c 0) 201,lss 201 (.nat 8),rx 16 [101,102,104,105,106,107,108,109,110,111,112,8,7,5,6] []],lss (gx 206 201 14) (.nat 5)),
([rx 32 [8,201] [206,202],rx 12 [8,101,104,105,112,7,102,147,115] [202],leq (c 0) 201,lss 201 (.nat 8),rx 16 [101,102,104,105,106,107,108,109,110,111,112,8,7,5,6] []],lss (.nat (gx 206 201 14)) (.nat 5)),
([rx 32 [8,201] [206,202],rx 12 [8,101,104,105,112,7,102,147,115] [202],leq (c 0) 201,lss 201 (.nat 8),rx 16 [101,102,104,105,106,107,108,109,110,111,112,8,7,5,6] []],leq (gx 206 201 6) (c 1048576)),
([rx 32 [8,201] [206,202],rx 12 [8,101,104,105,112,7,102,147,115] [202],leq (c 0) 201,lss 201 (.nat 8),rx 16 [101,102,104,105,106,107,108,109,110,111,112,8,7,5,6] []],leq (gx 206 201 6) (c 1048576)),
([rx 32 [8,201] [206,202],rx 12 [8,101,104,105,112,7,102,147,115] [202],leq (c 0) 201,lss 201 (.nat 8)],leq (gx 206 201 0) (.mul (.sub 101 (c 1)) (c 8))),
([rx 32 [8,201] [206,202],rx 12 [8,101,104,105,112,7,102,147,115] [202],leq (c 0) 201,lss 201 (.nat 8),rx 16 [101,102,104,105,106,107,108,109,110,111,112,8,7,5,6] []],leq (c (-8)) (gx 206 201 1)),
([rx 32 [8,201] [206,202],rx 12 [8,101,104,105,112,7,102,147,115] [202],leq (c 0) 201,lss 201 (.nat 8),rx 16 [101,102,104,105,106,107,108,109,110,111,112,8,7,5,6] []],leq (gx 206 201 1) (c 8)),
([rx 32 [8,201] [206,202],rx 12 [8,101,104,105,112,7,102,147,115] [202],leq (c 0) 201,lss 201 (.nat 8)],leq (gx 206 201 3) (gx 206 201 4)),
([rx 32 [8,201] [206,202],rx 12 [8,101,104,105,112,7,102,147,115] [202],leq (c 0) 201,lss 201 (.nat 8),rx 16 [101,102,104,105,106,107,108,109,110,111,112,8,7,5,6] []],leq (gx 206 201 4) (c 16)),
([rx 32 [8,201] [206,202],rx 12 [8,101,104,105,112,7,102,147,115] [202],leq (c 0) 201,lss 201 (.nat 8)],leq (c 0) (gx 206 201 14)),
([rx 32 [8,201] [206,202],rx 12 [8,101,104,105,112,7,102,147,115] [202],leq (c 0) 201,lss 201 (.nat 8),rx 16 [101,102,104,105,106,107,108,109,110,111,112,8,7,5,6] []],lss (gx 206 201 14) (.nat 5)),
([rx 32 [8,201] [206,202],rx 12 [8,101,104,105,112,7,102,147,115] [202],leq (c 0) 201,lss 201 (.nat 8),rx 16 [101,102,104,105,106,107,108,109,110,111,112,8,7,5,6] []],leq (gx 206 201 6) (c 1048576)),
([rx 32 [8,201] [206,202],rx 12 [8,101,104,105,112,7,102,147,115] [202],leq (c 0) 201,lss 201 (.nat 8),rx 16 [101,102,104,105,106,107,108,109,110,111,112,8,7,5,6] []],leq (gx 206 201 6) (c 1048576))]:=by
  repeat' (first|exact .nil|refine au ?_ ?_)
  all_goals(
   intro ρ h;simp only[vS,IE.den,BE.den,LE.den]at h⊢
   try have:=h.1 (ρ.i 201).toNat (by omega)
   try have:=h.2.1.1 (ρ.i 201).toNat (by omega)
   skip
   simp only[vR,IntKind.wrap_i64]at*
   omega)
theorem aj9:ab [([rx 32 [8,201] [206,202],leq (gx 206 201 5) 112,rx 33 [8,201,104,111,148] [202,2],leq (c 0) 201,lss 201 (.nat 8),rx 12 [8,101,104,105,112,7,102,147,115] [2]],leq (gx 206 201 5) (gx 206 201 6))]:=by
 repeat' (first|exact .nil|refine au ?_ ?_)
 all_goals(
  intro ρ h;simp only[vS,IE.den,BE.den,LE.den]at h⊢
  obtain⟨h0,h1,h2,h3,h4,h5⟩:=h
  try simp only[IntKind.wrap_i64]at*
  first|have y00:=h0 (ρ.i 201).toNat (by omega)|have y00:=h
  first|have y02:=h2 (ρ.i 201).toNat (by omega)|have y02:=h
  first|have y05:=h5.1 (ρ.i 201).toNat (by omega)|have y05:=h
  try simp only[aC,fR,xh,XE,ae]at y00 y02 y05⊢
  omega)
theorem aja:ab [([rx 32 [8,201] [206,202],leq (gx 206 201 5) 112,rx 33 [8,201,104,111,148] [202,2],leq (c 0) 201,lss 201 (.nat 8),rx 12 [8,101,104,105,112,7,102,147,115] [2]],leq (gx 206 201 5) (gx 206 201 6)),
([rx 32 [8,201] [206,202],leq (gx 206 201 5) 112,rx 33 [8,201,104,111,148] [202,2],leq (c 0) 201,lss 201 (.nat 8),rx 12 [8,101,104,105,112,7,102,147,115] [2]],leq (gx 206 201 5) (gx 206 201 6)),
([rx 32 [8,201] [206,202],leq (gx 206 201 5) 112,rx 33 [8,201,104,111,148] [202,2],leq (c 0) 201,lss 201 (.nat 8),rx 12 [8,101,104,105,112,7,102,147,115] [2]],leq (gx 206 201 5) (gx 206 201 6))]:=by
  repeat' (first|exact .nil|refine au ?_ ?_)
  all_goals(
   intro ρ h;simp only[vS,IE.den,BE.den,LE.den]at h⊢
   try have:=h.1 (ρ.i 201).toNat (by omega)
   try have:=h.2.2.1 (ρ.i 201).toNat (by omega)
   try have:=h.2.2.2.2.2.1 (ρ.i 201).toNat (by omega)
   skip
   simp only[vR,IntKind.wrap_i64]at*
   omega)
theorem ajb:ab [([leq (c 0) 246,leq 246 (gx 206 201 4),leq (.sub (gx 206 201 3) (c 1)) 246,leq 246 (.add (gx 206 201 3) (c 1)),.imp (.cmp .neq 218 (c 1)) (leq 246 (gx 206 201 3)),leq (c 0) 242,leq 242 (.mul (.sub 101 (c 1)) (c 8)),.imp 217 (fb (ix (ex 242 (gx 206 201 0)) (ex 243 (c 0)) (.lit false))),.imp (.cmp .neq 243 (c 0)) (fb (ix (ix (jx 243 (.add (gx 206 201 1) (c 1))) (jx (.sub (gx 206 201 1) (c 1)) 243) (.lit false)) (ix (ex 242 (.add (gx 206 201 0) 243)) (ix (jx (.mn 216 (gx 206 201 1)) 243) (jx 243 (.mx 216 (gx 206 201 1))) (.lit false)) (.lit false)) (.lit false))),.imp (.cmp .neq (gx 206 201 3) (c 0)) (fb 217),.imp (nx 217) (fb (nx 208)),fb (ix (ex 216 207) (.lit true) (ex 216 (c 0))),.imp (ex 218 (c 1)) (fb (ix 217 (ix (ex (gx 206 201 1) (c 0)) (ex (.rem (gx 206 201 0) (c 8)) (c 0)) (.lit false)) (.lit false))),rx 32 [8,201] [206,202],leq (.sub (c 0) 104) 207,leq 207 104,.imp (nx 208) (fb (ix (ix (.cmp .neq (gx 202 201 11) (c (-1))) (.cmp .neq 148 (c 0)) (.lit false)) (.lit true) (ix (ex (gx 206 201 5) (.sub (gx 202 201 5) 111)) (.cmp .neq 147 (c 0)) (.lit false)))),leq (c 0) (gx 206 201 5),leq (gx 206 201 5) 112,rx 12 [8,101,104,105,112,7,102,147,115] [202],rx 33 [8,201,104,111,148] [202,2],leq (c 0) 203,leq 203 201,leq (c 0) 201,leq 201 (.nat 8),fb (nx (.cmp .neq 218 (c 0))),lss 201 (.nat 8),leq (c 0) 8,leq 8 (c 64),rx 16 [101,102,104,105,106,107,108,109,110,111,112,8,7,5,6] [],rx 12 [8,101,104,105,112,7,102,147,115] [2]],lss (.nat (gx 206 201 14)) (.nat 5))]:=by
 repeat' (first|exact .nil|refine au ?_ ?_)
 all_goals(
  intro ρ;(intro h;simp only[vS,IE.den,BE.den,LE.den]at h⊢;revert h;(try simp only[and_imp]);intros)
  have q:=(by assumption:ac 29 [ρ.i 8,ρ.i 201] [ρ.l 206,ρ.l 202])
  have r:=(by assumption:ac 9 [ρ.i 8,ρ.i 101,ρ.i 104,ρ.i 105,ρ.i 112,ρ.i 7,ρ.i 102,ρ.i 147,ρ.i 115] [ρ.l 202])
  have cf:=(by assumption:ac 13 [ρ.i 101,ρ.i 102,ρ.i 104,ρ.i 105,ρ.i 106,ρ.i 107,ρ.i 108,ρ.i 109,ρ.i 110,ρ.i 111,ρ.i 112,ρ.i 8,ρ.i 7,ρ.i 5,ρ.i 6] [])
  simp only[ac,cW,inv,aV]at q r cf
  have q:=q (ρ.i 201).toNat (by((try simp only[IntKind.wrap_i64,Int.ofNat_toNat]at*);omega))
  have r:=r.1 (ρ.i 201).toNat (by((try simp only[IntKind.wrap_i64,Int.ofNat_toNat]at*);omega))
  simp only[aC]at r
  ((try simp only[IntKind.wrap_i64,Int.ofNat_toNat]at*);omega))
theorem ajc:ab [([rx 0 [] [260,(ux (ux (ux (ux (ux (ux (ux (ux (ux 206 201 0 223) 201 1 224) 201 2 (gx 206 201 2)) 201 3 227) 201 4 (gx 206 201 4)) 201 7 229) 201 8 230) 201 5 237) 201 6 (gx 206 201 6))],leq (c 0) 237,leq 237 (gx 206 201 6),leq (c 0) 227,leq 227 (gx 206 201 4),leq (c 0) 223,leq 223 (.mul (.sub 101 (c 1)) (c 8)),.imp (.cmp .neq 224 (c 0)) (fb (ix (ix (jx 224 (.add (gx 206 201 1) (c 1))) (jx (.sub (gx 206 201 1) (c 1)) 224) (.lit false)) (ix (ex 223 (.add (gx 206 201 0) 224)) (ix (jx (.mn 216 (gx 206 201 1)) 224) (jx 224 (.mx 216 (gx 206 201 1))) (.lit false)) (.lit false)) (.lit false))),fb (ix (ex 216 207) (.lit true) (ex 216 (c 0))),rx 32 [8,201] [206,202],leq (.sub (c 0) 104) 207,leq 207 104,rx 12 [8,101,104,105,112,7,102,147,115] [202]],rx 12 [8,101,104,105,112,7,102,147,115] [260]),
([rx 0 [] [272,(ux (ux (ux (ux (ux (ux (ux (ux (ux 206 201 0 242) 201 1 243) 201 2 (gx 206 201 2)) 201 3 246) 201 4 (gx 206 201 4)) 201 7 248) 201 8 249) 201 5 256) 201 6 (gx 206 201 6))],leq (c 0) 256,leq 256 (gx 206 201 6),leq (c 0) 246,leq 246 (gx 206 201 4),leq (c 0) 242,leq 242 (.mul (.sub 101 (c 1)) (c 8)),.imp (.cmp .neq 243 (c 0)) (fb (ix (ix (jx 243 (.add (gx 206 201 1) (c 1))) (jx (.sub (gx 206 201 1) (c 1)) 243) (.lit false)) (ix (ex 242 (.add (gx 206 201 0) 243)) (ix (jx (.mn 216 (gx 206 201 1)) 243) (jx 243 (.mx 216 (gx 206 201 1))) (.lit false)) (.lit false)) (.lit false))),fb (ix (ex 216 207) (.lit true) (ex 216 (c 0))),rx 32 [8,201] [206,202],leq (.sub (c 0) 104) 207,leq 207 104,rx 12 [8,101,104,105,112,7,102,147,115] [202]],rx 12 [8,101,104,105,112,7,102,147,115] [272]),
([rx 0 [] [278,(ux (ux (ux (ux (ux (ux (ux (ux (ux 206 201 0 242) 201 1 243) 201 2 (gx 206 201 2)) 201 3 246) 201 4 (gx 206 201 4)) 201 7 248) 201 8 249) 201 5 258) 201 6 (gx 206 201 6))],leq (c 0) 258,leq 258 (gx 206 201 6),leq (c 0) 246,leq 246 (gx 206 201 4),leq (c 0) 242,leq 242 (.mul (.sub 101 (c 1)) (c 8)),.imp (.cmp .neq 243 (c 0)) (fb (ix (ix (jx 243 (.add (gx 206 201 1) (c 1))) (jx (.sub (gx 206 201 1) (c 1)) 243) (.lit false)) (ix (ex 242 (.add (gx 206 201 0) 243)) (ix (jx (.mn 216 (gx 206 201 1)) 243) (jx 243 (.mx 216 (gx 206 201 1))) (.lit false)) (.lit false)) (.lit false))),fb (ix (ex 216 207) (.lit true) (ex 216 (c 0))),rx 32 [8,201] [206,202],leq (.sub (c 0) 104) 207,leq 207 104,rx 12 [8,101,104,105,112,7,102,147,115] [202]],rx 12 [8,101,104,105,112,7,102,147,115] [278])]:=by
  repeat' (first|exact .nil|refine au ?_ ?_)
  all_goals(
   intro ρ h;simp only[vS,IE.den,BE.den,LE.den]at h⊢
   obtain⟨h0,h1,h2,h3,h4,h5,h6,h7,h8,h9,h10,h11,h12⟩:=h
   try simp only[IntKind.wrap_i64]at*
   refine⟨fun a ha=>?_,fun a b ha hb=>?_⟩
   ·first|have xa9:=h9 a ha|have xa9:=h
    first|have xa12:=h12.1 a ha|have xa12:=h
    simp only[h0]
    by_cases e:a=(ρ.i 201).toNat
    ·simp only[aC,fR,xh,XE,ae,e,true_and,if_true,and_false,false_and,if_false,reduceIte,Nat.reduceEqDiff]at xa9 xa12⊢;grind
    ·simp only[aC,fR,xh,XE,ae,e,false_and,if_false]at xa9 xa12⊢;grind
   ·first|have z12:=h12.2 a b ha hb|have z12:=h
    first|have xa9:=h9 a ha|have xa9:=h
    first|have xa12:=h12.1 a ha|have xa12:=h
    first|have xb9:=h9 b hb|have xb9:=h
    first|have xb12:=h12.1 b hb|have xb12:=h
    simp only[h0]
    try simp only[aC,fR,xh,XE,ae]at z12 xa9 xa12 xb9 xb12⊢
    grind)
theorem aie:ab [([eql 259 (wx (.add 201 (c 1))),rx 0 [] [260,(ux (ux (ux (ux (ux (ux (ux (ux (ux 206 201 0 223) 201 1 224) 201 2 (gx 206 201 2)) 201 3 227) 201 4 (gx 206 201 4)) 201 7 229) 201 8 230) 201 5 237) 201 6 (gx 206 201 6))],eql 261 (.add (.nat 203) (c 1)),rx 0 [] [261,(ux 203 (.nat 203) 0 233)],leq (c 0) 237,leq 237 (gx 206 201 6),leq (c 0) 227,leq 227 (gx 206 201 4),leq (.sub (gx 206 201 3) (c 1)) 227,leq 227 (.add (gx 206 201 3) (c 1)),.imp (.cmp .neq 218 (c 1)) (leq 227 (gx 206 201 3)),leq (c 0) 223,leq 223 (.mul (.sub 101 (c 1)) (c 8)),.imp 217 (fb (ix (ex 223 (gx 206 201 0)) (ex 224 (c 0)) (.lit false))),.imp (.cmp .neq 224 (c 0)) (fb (ix (ix (jx 224 (.add (gx 206 201 1) (c 1))) (jx (.sub (gx 206 201 1) (c 1)) 224) (.lit false)) (ix (ex 223 (.add (gx 206 201 0) 224)) (ix (jx (.mn 216 (gx 206 201 1)) 224) (jx 224 (.mx 216 (gx 206 201 1))) (.lit false)) (.lit false)) (.lit false))),.imp (.cmp .neq (gx 206 201 3) (c 0)) (fb 217),.imp (nx 217) (fb (nx 208)),fb (ix (ex 216 207) (.lit true) (ex 216 (c 0))),.imp (ex 218 (c 1)) (fb (ix 217 (ix (ex (gx 206 201 1) (c 0)) (ex (.rem (gx 206 201 0) (c 8)) (c 0)) (.lit false)) (.lit false))),rx 32 [8,201] [206,202],leq (.sub (c 0) 104) 207,leq 207 104,.imp (nx 208) (fb (ix (ix (.cmp .neq (gx 202 201 11) (c (-1))) (.cmp .neq 148 (c 0)) (.lit false)) (.lit true) (ix (ex (gx 206 201 5) (.sub (gx 202 201 5) 111)) (.cmp .neq 147 (c 0)) (.lit false)))),leq (c 0) (gx 206 201 5),leq (gx 206 201 5) 112,rx 12 [8,101,104,105,112,7,102,147,115] [202],rx 33 [8,201,104,111,148] [202,2],leq (c 0) 203,leq 203 201,leq (c 0) 201,leq 201 (.nat 8),fb (ix (ex 147 (c 0)) (ex 148 (c 1)) (.lit false)),fb (.cmp .neq 218 (c 0)),lss 201 (.nat 8),leq (c 0) 8,leq 8 (c 64),rx 16 [101,102,104,105,106,107,108,109,110,111,112,8,7,5,6] [],rx 12 [8,101,104,105,112,7,102,147,115] [2]],rx 33 [8,259,104,111,148] [260,2])]:=by
 repeat' (first|exact .nil|refine au ?_ ?_)
 all_goals(
  intro ρ;(intro h;simp only[vS,IE.den,BE.den,LE.den]at h⊢;revert h;(try simp only[and_imp]);intros)
  have hcf:ρ.i 101≤32∧1≤ρ.i 104∧ρ.i 112≤1048576∧ρ.i 104≤8:=by(simp only[ac,aV]at*;omega)
  have hi:0≤ρ.i 201∧ρ.i 201<ρ.i 8:=by((try simp only[IntKind.wrap_i64,Int.ofNat_toNat]at*);omega)
  have hb:ρ.l 206 (ρ.i 201).toNat 1=ρ.l 202 (ρ.i 201).toNat 1∧ -ρ.i 104≤ρ.l 202 (ρ.i 201).toNat 1∧ρ.l 202 (ρ.i 201).toNat 1≤ρ.i 104∧ρ.l 206 (ρ.i 201).toNat 6=ρ.i 112∧0≤ρ.l 206 (ρ.i 201).toNat 3:=by
   have q:=(by assumption:ac 29 [ρ.i 8,ρ.i 201] [ρ.l 206,ρ.l 202])
   have r:=(by assumption:ac 9 [ρ.i 8,ρ.i 101,ρ.i 104,ρ.i 105,ρ.i 112,ρ.i 7,ρ.i 102,ρ.i 147,ρ.i 115] [ρ.l 202])
   simp only[ac,cW,inv]at q r
   have q:=q (ρ.i 201).toNat (by omega)
   have r:=r.1 (ρ.i 201).toNat (by omega)
   simp only[aC]at r
   omega
  rw[show ρ.l 260=ah (ah (ah (ah (ah (ah (ah (ah (ah (ρ.l 206) (ρ.i 201) 0 (ρ.i 223)) (ρ.i 201) 1 (ρ.i 224)) (ρ.i 201) 2 (ρ.l 206 (ρ.i 201).toNat 2)) (ρ.i 201) 3 (ρ.i 227)) (ρ.i 201) 4 (ρ.l 206 (ρ.i 201).toNat 4)) (ρ.i 201) 7 (ρ.i 229)) (ρ.i 201) 8 (ρ.i 230)) (ρ.i 201) 5 (ρ.i 237)) (ρ.i 201) 6 (ρ.l 206 (ρ.i 201).toNat 6)by assumption]
  have M:=cz (A:=ρ.l 206) (B:=ρ.l 202) (l0:=ρ.l 2) (i:=ρ.i 201) (i':=ρ.i 259) (p:=ρ.i 223) (v:=ρ.i 224) (o:=ρ.i 227) (x:=ρ.i 237) (L:=ah (ah (ah (ah (ah (ah (ah (ah (ah (ρ.l 206) (ρ.i 201) 0 (ρ.i 223)) (ρ.i 201) 1 (ρ.i 224)) (ρ.i 201) 2 (ρ.l 206 (ρ.i 201).toNat 2)) (ρ.i 201) 3 (ρ.i 227)) (ρ.i 201) 4 (ρ.l 206 (ρ.i 201).toNat 4)) (ρ.i 201) 7 (ρ.i 229)) (ρ.i 201) 8 (ρ.i 230)) (ρ.i 201) 5 (ρ.i 237)) (ρ.i 201) 6 (ρ.l 206 (ρ.i 201).toNat 6)) (S:=ρ.i 104) (cost:=ρ.i 111) (power:=ρ.i 148) (by assumption) (by assumption) (by assumption) hi.1 hi.2 (by((try simp only[IntKind.wrap_i64,Int.ofNat_toNat]at*);omega)) hcf.2.1
   (fun a ha j=>by simp only[ae,ha,false_and,if_false]) (by simp[ae]) (by simp[ae]) (by simp[ae]) (by simp[ae]) (by simp[ae]) (by omega) (by omega) (by omega) (by grind) (by grind) (by grind) (by grind)
  exact M.2)
theorem aif:ab [([eql 262 (wx (.add 201 (c 1))),rx 0 [] [263,(ux (ux (ux (ux (ux (ux (ux 206 201 0 223) 201 1 224) 201 2 (gx 206 201 2)) 201 3 227) 201 4 (gx 206 201 4)) 201 7 229) 201 8 230)],eql 264 (.add (.nat 203) (c 1)),rx 0 [] [264,(ux 203 (.nat 203) 0 233)],leq (c 0) 227,leq 227 (gx 206 201 4),leq (.sub (gx 206 201 3) (c 1)) 227,leq 227 (.add (gx 206 201 3) (c 1)),.imp (.cmp .neq 218 (c 1)) (leq 227 (gx 206 201 3)),leq (c 0) 223,leq 223 (.mul (.sub 101 (c 1)) (c 8)),.imp 217 (fb (ix (ex 223 (gx 206 201 0)) (ex 224 (c 0)) (.lit false))),.imp (.cmp .neq 224 (c 0)) (fb (ix (ix (jx 224 (.add (gx 206 201 1) (c 1))) (jx (.sub (gx 206 201 1) (c 1)) 224) (.lit false)) (ix (ex 223 (.add (gx 206 201 0) 224)) (ix (jx (.mn 216 (gx 206 201 1)) 224) (jx 224 (.mx 216 (gx 206 201 1))) (.lit false)) (.lit false)) (.lit false))),.imp (.cmp .neq (gx 206 201 3) (c 0)) (fb 217),.imp (nx 217) (fb (nx 208)),fb (ix (ex 216 207) (.lit true) (ex 216 (c 0))),.imp (ex 218 (c 1)) (fb (ix 217 (ix (ex (gx 206 201 1) (c 0)) (ex (.rem (gx 206 201 0) (c 8)) (c 0)) (.lit false)) (.lit false))),rx 32 [8,201] [206,202],leq (.sub (c 0) 104) 207,leq 207 104,.imp (nx 208) (fb (ix (ix (.cmp .neq (gx 202 201 11) (c (-1))) (.cmp .neq 148 (c 0)) (.lit false)) (.lit true) (ix (ex (gx 206 201 5) (.sub (gx 202 201 5) 111)) (.cmp .neq 147 (c 0)) (.lit false)))),leq (c 0) (gx 206 201 5),leq (gx 206 201 5) 112,rx 12 [8,101,104,105,112,7,102,147,115] [202],rx 33 [8,201,104,111,148] [202,2],leq (c 0) 203,leq 203 201,leq (c 0) 201,leq 201 (.nat 8),fb (nx (ix (ex 147 (c 0)) (ex 148 (c 1)) (.lit false))),fb (.cmp .neq 218 (c 0)),lss 201 (.nat 8),leq (c 0) 8,leq 8 (c 64),rx 16 [101,102,104,105,106,107,108,109,110,111,112,8,7,5,6] [],rx 12 [8,101,104,105,112,7,102,147,115] [2]],rx 12 [8,101,104,105,112,7,102,147,115] [263])]:=by
 repeat' (first|exact .nil|refine au ?_ ?_)
 all_goals(
  intro ρ;(intro h;simp only[vS,IE.den,BE.den,LE.den]at h⊢;revert h;(try simp only[and_imp]);intros)
  have hcf:ρ.i 101≤32∧1≤ρ.i 104∧ρ.i 112≤1048576∧ρ.i 104≤8:=by(simp only[ac,aV]at*;omega)
  have hi:0≤ρ.i 201∧ρ.i 201<ρ.i 8:=by((try simp only[IntKind.wrap_i64,Int.ofNat_toNat]at*);omega)
  have hb:ρ.l 206 (ρ.i 201).toNat 1=ρ.l 202 (ρ.i 201).toNat 1∧ -ρ.i 104≤ρ.l 202 (ρ.i 201).toNat 1∧ρ.l 202 (ρ.i 201).toNat 1≤ρ.i 104∧ρ.l 206 (ρ.i 201).toNat 6=ρ.i 112∧0≤ρ.l 206 (ρ.i 201).toNat 3:=by
   have q:=(by assumption:ac 29 [ρ.i 8,ρ.i 201] [ρ.l 206,ρ.l 202])
   have r:=(by assumption:ac 9 [ρ.i 8,ρ.i 101,ρ.i 104,ρ.i 105,ρ.i 112,ρ.i 7,ρ.i 102,ρ.i 147,ρ.i 115] [ρ.l 202])
   simp only[ac,cW,inv]at q r
   have q:=q (ρ.i 201).toNat (by omega)
   have r:=r.1 (ρ.i 201).toNat (by omega)
   simp only[aC]at r
   omega
  rw[show ρ.l 263=ah (ah (ah (ah (ah (ah (ah (ρ.l 206) (ρ.i 201) 0 (ρ.i 223)) (ρ.i 201) 1 (ρ.i 224)) (ρ.i 201) 2 (ρ.l 206 (ρ.i 201).toNat 2)) (ρ.i 201) 3 (ρ.i 227)) (ρ.i 201) 4 (ρ.l 206 (ρ.i 201).toNat 4)) (ρ.i 201) 7 (ρ.i 229)) (ρ.i 201) 8 (ρ.i 230)by assumption]
  have M:=cz (A:=ρ.l 206) (B:=ρ.l 202) (l0:=ρ.l 2) (i:=ρ.i 201) (i':=ρ.i 262) (p:=ρ.i 223) (v:=ρ.i 224) (o:=ρ.i 227) (x:=ρ.l 206 (ρ.i 201).toNat 5) (L:=ah (ah (ah (ah (ah (ah (ah (ρ.l 206) (ρ.i 201) 0 (ρ.i 223)) (ρ.i 201) 1 (ρ.i 224)) (ρ.i 201) 2 (ρ.l 206 (ρ.i 201).toNat 2)) (ρ.i 201) 3 (ρ.i 227)) (ρ.i 201) 4 (ρ.l 206 (ρ.i 201).toNat 4)) (ρ.i 201) 7 (ρ.i 229)) (ρ.i 201) 8 (ρ.i 230)) (S:=ρ.i 104) (cost:=ρ.i 111) (power:=ρ.i 148) (by assumption) (by assumption) (by assumption) hi.1 hi.2 (by((try simp only[IntKind.wrap_i64,Int.ofNat_toNat]at*);omega)) hcf.2.1
   (fun a ha j=>by simp only[ae,ha,false_and,if_false]) (by simp[ae]) (by simp[ae]) (by simp[ae]) (by simp[ae]) (by simp[ae]) (by omega) (by omega) (by omega) (by grind) (by grind) (by grind) (by grind)
  exact M.1)
theorem aig:ab [([eql 262 (wx (.add 201 (c 1))),rx 0 [] [263,(ux (ux (ux (ux (ux (ux (ux 206 201 0 223) 201 1 224) 201 2 (gx 206 201 2)) 201 3 227) 201 4 (gx 206 201 4)) 201 7 229) 201 8 230)],eql 264 (.add (.nat 203) (c 1)),rx 0 [] [264,(ux 203 (.nat 203) 0 233)],leq (c 0) 227,leq 227 (gx 206 201 4),leq (.sub (gx 206 201 3) (c 1)) 227,leq 227 (.add (gx 206 201 3) (c 1)),.imp (.cmp .neq 218 (c 1)) (leq 227 (gx 206 201 3)),leq (c 0) 223,leq 223 (.mul (.sub 101 (c 1)) (c 8)),.imp 217 (fb (ix (ex 223 (gx 206 201 0)) (ex 224 (c 0)) (.lit false))),.imp (.cmp .neq 224 (c 0)) (fb (ix (ix (jx 224 (.add (gx 206 201 1) (c 1))) (jx (.sub (gx 206 201 1) (c 1)) 224) (.lit false)) (ix (ex 223 (.add (gx 206 201 0) 224)) (ix (jx (.mn 216 (gx 206 201 1)) 224) (jx 224 (.mx 216 (gx 206 201 1))) (.lit false)) (.lit false)) (.lit false))),.imp (.cmp .neq (gx 206 201 3) (c 0)) (fb 217),.imp (nx 217) (fb (nx 208)),fb (ix (ex 216 207) (.lit true) (ex 216 (c 0))),.imp (ex 218 (c 1)) (fb (ix 217 (ix (ex (gx 206 201 1) (c 0)) (ex (.rem (gx 206 201 0) (c 8)) (c 0)) (.lit false)) (.lit false))),rx 32 [8,201] [206,202],leq (.sub (c 0) 104) 207,leq 207 104,.imp (nx 208) (fb (ix (ix (.cmp .neq (gx 202 201 11) (c (-1))) (.cmp .neq 148 (c 0)) (.lit false)) (.lit true) (ix (ex (gx 206 201 5) (.sub (gx 202 201 5) 111)) (.cmp .neq 147 (c 0)) (.lit false)))),leq (c 0) (gx 206 201 5),leq (gx 206 201 5) 112,rx 12 [8,101,104,105,112,7,102,147,115] [202],rx 33 [8,201,104,111,148] [202,2],leq (c 0) 203,leq 203 201,leq (c 0) 201,leq 201 (.nat 8),fb (nx (ix (ex 147 (c 0)) (ex 148 (c 1)) (.lit false))),fb (.cmp .neq 218 (c 0)),lss 201 (.nat 8),leq (c 0) 8,leq 8 (c 64),rx 16 [101,102,104,105,106,107,108,109,110,111,112,8,7,5,6] [],rx 12 [8,101,104,105,112,7,102,147,115] [2]],rx 33 [8,262,104,111,148] [263,2])]:=by
 repeat' (first|exact .nil|refine au ?_ ?_)
 all_goals(
  intro ρ;(intro h;simp only[vS,IE.den,BE.den,LE.den]at h⊢;revert h;(try simp only[and_imp]);intros)
  have hcf:ρ.i 101≤32∧1≤ρ.i 104∧ρ.i 112≤1048576∧ρ.i 104≤8:=by(simp only[ac,aV]at*;omega)
  have hi:0≤ρ.i 201∧ρ.i 201<ρ.i 8:=by((try simp only[IntKind.wrap_i64,Int.ofNat_toNat]at*);omega)
  have hb:ρ.l 206 (ρ.i 201).toNat 1=ρ.l 202 (ρ.i 201).toNat 1∧ -ρ.i 104≤ρ.l 202 (ρ.i 201).toNat 1∧ρ.l 202 (ρ.i 201).toNat 1≤ρ.i 104∧ρ.l 206 (ρ.i 201).toNat 6=ρ.i 112∧0≤ρ.l 206 (ρ.i 201).toNat 3:=by
   have q:=(by assumption:ac 29 [ρ.i 8,ρ.i 201] [ρ.l 206,ρ.l 202])
   have r:=(by assumption:ac 9 [ρ.i 8,ρ.i 101,ρ.i 104,ρ.i 105,ρ.i 112,ρ.i 7,ρ.i 102,ρ.i 147,ρ.i 115] [ρ.l 202])
   simp only[ac,cW,inv]at q r
   have q:=q (ρ.i 201).toNat (by omega)
   have r:=r.1 (ρ.i 201).toNat (by omega)
   simp only[aC]at r
   omega
  rw[show ρ.l 263=ah (ah (ah (ah (ah (ah (ah (ρ.l 206) (ρ.i 201) 0 (ρ.i 223)) (ρ.i 201) 1 (ρ.i 224)) (ρ.i 201) 2 (ρ.l 206 (ρ.i 201).toNat 2)) (ρ.i 201) 3 (ρ.i 227)) (ρ.i 201) 4 (ρ.l 206 (ρ.i 201).toNat 4)) (ρ.i 201) 7 (ρ.i 229)) (ρ.i 201) 8 (ρ.i 230)by assumption]
  have M:=cz (A:=ρ.l 206) (B:=ρ.l 202) (l0:=ρ.l 2) (i:=ρ.i 201) (i':=ρ.i 262) (p:=ρ.i 223) (v:=ρ.i 224) (o:=ρ.i 227) (x:=ρ.l 206 (ρ.i 201).toNat 5) (L:=ah (ah (ah (ah (ah (ah (ah (ρ.l 206) (ρ.i 201) 0 (ρ.i 223)) (ρ.i 201) 1 (ρ.i 224)) (ρ.i 201) 2 (ρ.l 206 (ρ.i 201).toNat 2)) (ρ.i 201) 3 (ρ.i 227)) (ρ.i 201) 4 (ρ.l 206 (ρ.i 201).toNat 4)) (ρ.i 201) 7 (ρ.i 229)) (ρ.i 201) 8 (ρ.i 230)) (S:=ρ.i 104) (cost:=ρ.i 111) (power:=ρ.i 148) (by assumption) (by assumption) (by assumption) hi.1 hi.2 (by((try simp only[IntKind.wrap_i64,Int.ofNat_toNat]at*);omega)) hcf.2.1
   (fun a ha j=>by simp only[ae,ha,false_and,if_false]) (by simp[ae]) (by simp[ae]) (by simp[ae]) (by simp[ae]) (by simp[ae]) (by omega) (by omega) (by omega) (by grind) (by grind) (by grind) (by grind)
  exact M.2)
theorem aih:ab [([eql 265 (wx (.add 201 (c 1))),rx 0 [] [266,(ux (ux (ux (ux (ux (ux (ux (ux (ux 206 201 0 223) 201 1 224) 201 2 (gx 206 201 2)) 201 3 227) 201 4 (gx 206 201 4)) 201 7 229) 201 8 230) 201 5 239) 201 6 (gx 206 201 6))],eql 267 203,leq (c 0) 239,leq 239 (gx 206 201 6),leq (c 0) 227,leq 227 (gx 206 201 4),leq (.sub (gx 206 201 3) (c 1)) 227,leq 227 (.add (gx 206 201 3) (c 1)),.imp (.cmp .neq 218 (c 1)) (leq 227 (gx 206 201 3)),leq (c 0) 223,leq 223 (.mul (.sub 101 (c 1)) (c 8)),.imp 217 (fb (ix (ex 223 (gx 206 201 0)) (ex 224 (c 0)) (.lit false))),.imp (.cmp .neq 224 (c 0)) (fb (ix (ix (jx 224 (.add (gx 206 201 1) (c 1))) (jx (.sub (gx 206 201 1) (c 1)) 224) (.lit false)) (ix (ex 223 (.add (gx 206 201 0) 224)) (ix (jx (.mn 216 (gx 206 201 1)) 224) (jx 224 (.mx 216 (gx 206 201 1))) (.lit false)) (.lit false)) (.lit false))),.imp (.cmp .neq (gx 206 201 3) (c 0)) (fb 217),.imp (nx 217) (fb (nx 208)),fb (ix (ex 216 207) (.lit true) (ex 216 (c 0))),.imp (ex 218 (c 1)) (fb (ix 217 (ix (ex (gx 206 201 1) (c 0)) (ex (.rem (gx 206 201 0) (c 8)) (c 0)) (.lit false)) (.lit false))),rx 32 [8,201] [206,202],leq (.sub (c 0) 104) 207,leq 207 104,.imp (nx 208) (fb (ix (ix (.cmp .neq (gx 202 201 11) (c (-1))) (.cmp .neq 148 (c 0)) (.lit false)) (.lit true) (ix (ex (gx 206 201 5) (.sub (gx 202 201 5) 111)) (.cmp .neq 147 (c 0)) (.lit false)))),leq (c 0) (gx 206 201 5),leq (gx 206 201 5) 112,rx 12 [8,101,104,105,112,7,102,147,115] [202],rx 33 [8,201,104,111,148] [202,2],leq (c 0) 203,leq 203 201,leq (c 0) 201,leq 201 (.nat 8),fb (ix (ex 147 (c 0)) (ex 148 (c 1)) (.lit false)),fb (.cmp .neq 218 (c 0)),lss 201 (.nat 8),leq (c 0) 8,leq 8 (c 64),rx 16 [101,102,104,105,106,107,108,109,110,111,112,8,7,5,6] [],rx 12 [8,101,104,105,112,7,102,147,115] [2]],rx 12 [8,101,104,105,112,7,102,147,115] [266])]:=by
 repeat' (first|exact .nil|refine au ?_ ?_)
 all_goals(
  intro ρ;(intro h;simp only[vS,IE.den,BE.den,LE.den]at h⊢;revert h;(try simp only[and_imp]);intros)
  have hcf:ρ.i 101≤32∧1≤ρ.i 104∧ρ.i 112≤1048576∧ρ.i 104≤8:=by(simp only[ac,aV]at*;omega)
  have hi:0≤ρ.i 201∧ρ.i 201<ρ.i 8:=by((try simp only[IntKind.wrap_i64,Int.ofNat_toNat]at*);omega)
  have hb:ρ.l 206 (ρ.i 201).toNat 1=ρ.l 202 (ρ.i 201).toNat 1∧ -ρ.i 104≤ρ.l 202 (ρ.i 201).toNat 1∧ρ.l 202 (ρ.i 201).toNat 1≤ρ.i 104∧ρ.l 206 (ρ.i 201).toNat 6=ρ.i 112∧0≤ρ.l 206 (ρ.i 201).toNat 3:=by
   have q:=(by assumption:ac 29 [ρ.i 8,ρ.i 201] [ρ.l 206,ρ.l 202])
   have r:=(by assumption:ac 9 [ρ.i 8,ρ.i 101,ρ.i 104,ρ.i 105,ρ.i 112,ρ.i 7,ρ.i 102,ρ.i 147,ρ.i 115] [ρ.l 202])
   simp only[ac,cW,inv]at q r
   have q:=q (ρ.i 201).toNat (by omega)
   have r:=r.1 (ρ.i 201).toNat (by omega)
   simp only[aC]at r
   omega
  rw[show ρ.l 266=ah (ah (ah (ah (ah (ah (ah (ah (ah (ρ.l 206) (ρ.i 201) 0 (ρ.i 223)) (ρ.i 201) 1 (ρ.i 224)) (ρ.i 201) 2 (ρ.l 206 (ρ.i 201).toNat 2)) (ρ.i 201) 3 (ρ.i 227)) (ρ.i 201) 4 (ρ.l 206 (ρ.i 201).toNat 4)) (ρ.i 201) 7 (ρ.i 229)) (ρ.i 201) 8 (ρ.i 230)) (ρ.i 201) 5 (ρ.i 239)) (ρ.i 201) 6 (ρ.l 206 (ρ.i 201).toNat 6)by assumption]
  have M:=cz (A:=ρ.l 206) (B:=ρ.l 202) (l0:=ρ.l 2) (i:=ρ.i 201) (i':=ρ.i 265) (p:=ρ.i 223) (v:=ρ.i 224) (o:=ρ.i 227) (x:=ρ.i 239) (L:=ah (ah (ah (ah (ah (ah (ah (ah (ah (ρ.l 206) (ρ.i 201) 0 (ρ.i 223)) (ρ.i 201) 1 (ρ.i 224)) (ρ.i 201) 2 (ρ.l 206 (ρ.i 201).toNat 2)) (ρ.i 201) 3 (ρ.i 227)) (ρ.i 201) 4 (ρ.l 206 (ρ.i 201).toNat 4)) (ρ.i 201) 7 (ρ.i 229)) (ρ.i 201) 8 (ρ.i 230)) (ρ.i 201) 5 (ρ.i 239)) (ρ.i 201) 6 (ρ.l 206 (ρ.i 201).toNat 6)) (S:=ρ.i 104) (cost:=ρ.i 111) (power:=ρ.i 148) (by assumption) (by assumption) (by assumption) hi.1 hi.2 (by((try simp only[IntKind.wrap_i64,Int.ofNat_toNat]at*);omega)) hcf.2.1
   (fun a ha j=>by simp only[ae,ha,false_and,if_false]) (by simp[ae]) (by simp[ae]) (by simp[ae]) (by simp[ae]) (by simp[ae]) (by omega) (by omega) (by omega) (by grind) (by grind) (by grind) (by grind)
  exact M.1)
theorem aii:ab [([eql 265 (wx (.add 201 (c 1))),rx 0 [] [266,(ux (ux (ux (ux (ux (ux (ux (ux (ux 206 201 0 223) 201 1 224) 201 2 (gx 206 201 2)) 201 3 227) 201 4 (gx 206 201 4)) 201 7 229) 201 8 230) 201 5 239) 201 6 (gx 206 201 6))],eql 267 203,leq (c 0) 239,leq 239 (gx 206 201 6),leq (c 0) 227,leq 227 (gx 206 201 4),leq (.sub (gx 206 201 3) (c 1)) 227,leq 227 (.add (gx 206 201 3) (c 1)),.imp (.cmp .neq 218 (c 1)) (leq 227 (gx 206 201 3)),leq (c 0) 223,leq 223 (.mul (.sub 101 (c 1)) (c 8)),.imp 217 (fb (ix (ex 223 (gx 206 201 0)) (ex 224 (c 0)) (.lit false))),.imp (.cmp .neq 224 (c 0)) (fb (ix (ix (jx 224 (.add (gx 206 201 1) (c 1))) (jx (.sub (gx 206 201 1) (c 1)) 224) (.lit false)) (ix (ex 223 (.add (gx 206 201 0) 224)) (ix (jx (.mn 216 (gx 206 201 1)) 224) (jx 224 (.mx 216 (gx 206 201 1))) (.lit false)) (.lit false)) (.lit false))),.imp (.cmp .neq (gx 206 201 3) (c 0)) (fb 217),.imp (nx 217) (fb (nx 208)),fb (ix (ex 216 207) (.lit true) (ex 216 (c 0))),.imp (ex 218 (c 1)) (fb (ix 217 (ix (ex (gx 206 201 1) (c 0)) (ex (.rem (gx 206 201 0) (c 8)) (c 0)) (.lit false)) (.lit false))),rx 32 [8,201] [206,202],leq (.sub (c 0) 104) 207,leq 207 104,.imp (nx 208) (fb (ix (ix (.cmp .neq (gx 202 201 11) (c (-1))) (.cmp .neq 148 (c 0)) (.lit false)) (.lit true) (ix (ex (gx 206 201 5) (.sub (gx 202 201 5) 111)) (.cmp .neq 147 (c 0)) (.lit false)))),leq (c 0) (gx 206 201 5),leq (gx 206 201 5) 112,rx 12 [8,101,104,105,112,7,102,147,115] [202],rx 33 [8,201,104,111,148] [202,2],leq (c 0) 203,leq 203 201,leq (c 0) 201,leq 201 (.nat 8),fb (ix (ex 147 (c 0)) (ex 148 (c 1)) (.lit false)),fb (.cmp .neq 218 (c 0)),lss 201 (.nat 8),leq (c 0) 8,leq 8 (c 64),rx 16 [101,102,104,105,106,107,108,109,110,111,112,8,7,5,6] [],rx 12 [8,101,104,105,112,7,102,147,115] [2]],rx 33 [8,265,104,111,148] [266,2])]:=by
 repeat' (first|exact .nil|refine au ?_ ?_)
 all_goals(
  intro ρ;(intro h;simp only[vS,IE.den,BE.den,LE.den]at h⊢;revert h;(try simp only[and_imp]);intros)
  have hcf:ρ.i 101≤32∧1≤ρ.i 104∧ρ.i 112≤1048576∧ρ.i 104≤8:=by(simp only[ac,aV]at*;omega)
  have hi:0≤ρ.i 201∧ρ.i 201<ρ.i 8:=by((try simp only[IntKind.wrap_i64,Int.ofNat_toNat]at*);omega)
  have hb:ρ.l 206 (ρ.i 201).toNat 1=ρ.l 202 (ρ.i 201).toNat 1∧ -ρ.i 104≤ρ.l 202 (ρ.i 201).toNat 1∧ρ.l 202 (ρ.i 201).toNat 1≤ρ.i 104∧ρ.l 206 (ρ.i 201).toNat 6=ρ.i 112∧0≤ρ.l 206 (ρ.i 201).toNat 3:=by
   have q:=(by assumption:ac 29 [ρ.i 8,ρ.i 201] [ρ.l 206,ρ.l 202])
   have r:=(by assumption:ac 9 [ρ.i 8,ρ.i 101,ρ.i 104,ρ.i 105,ρ.i 112,ρ.i 7,ρ.i 102,ρ.i 147,ρ.i 115] [ρ.l 202])
   simp only[ac,cW,inv]at q r
   have q:=q (ρ.i 201).toNat (by omega)
   have r:=r.1 (ρ.i 201).toNat (by omega)
   simp only[aC]at r
   omega
  rw[show ρ.l 266=ah (ah (ah (ah (ah (ah (ah (ah (ah (ρ.l 206) (ρ.i 201) 0 (ρ.i 223)) (ρ.i 201) 1 (ρ.i 224)) (ρ.i 201) 2 (ρ.l 206 (ρ.i 201).toNat 2)) (ρ.i 201) 3 (ρ.i 227)) (ρ.i 201) 4 (ρ.l 206 (ρ.i 201).toNat 4)) (ρ.i 201) 7 (ρ.i 229)) (ρ.i 201) 8 (ρ.i 230)) (ρ.i 201) 5 (ρ.i 239)) (ρ.i 201) 6 (ρ.l 206 (ρ.i 201).toNat 6)by assumption]
  have M:=cz (A:=ρ.l 206) (B:=ρ.l 202) (l0:=ρ.l 2) (i:=ρ.i 201) (i':=ρ.i 265) (p:=ρ.i 223) (v:=ρ.i 224) (o:=ρ.i 227) (x:=ρ.i 239) (L:=ah (ah (ah (ah (ah (ah (ah (ah (ah (ρ.l 206) (ρ.i 201) 0 (ρ.i 223)) (ρ.i 201) 1 (ρ.i 224)) (ρ.i 201) 2 (ρ.l 206 (ρ.i 201).toNat 2)) (ρ.i 201) 3 (ρ.i 227)) (ρ.i 201) 4 (ρ.l 206 (ρ.i 201).toNat 4)) (ρ.i 201) 7 (ρ.i 229)) (ρ.i 201) 8 (ρ.i 230)) (ρ.i 201) 5 (ρ.i 239)) (ρ.i 201) 6 (ρ.l 206 (ρ.i 201).toNat 6)) (S:=ρ.i 104) (cost:=ρ.i 111) (power:=ρ.i 148) (by assumption) (by assumption) (by assumption) hi.1 hi.2 (by((try simp only[IntKind.wrap_i64,Int.ofNat_toNat]at*);omega)) hcf.2.1
   (fun a ha j=>by simp only[ae,ha,false_and,if_false]) (by simp[ae]) (by simp[ae]) (by simp[ae]) (by simp[ae]) (by simp[ae]) (by omega) (by omega) (by omega) (by grind) (by grind) (by grind) (by grind)
  exact M.2)
theorem aij:ab [([eql 268 (wx (.add 201 (c 1))),rx 0 [] [269,(ux (ux (ux (ux (ux (ux (ux 206 201 0 223) 201 1 224) 201 2 (gx 206 201 2)) 201 3 227) 201 4 (gx 206 201 4)) 201 7 229) 201 8 230)],eql 270 203,leq (c 0) 227,leq 227 (gx 206 201 4),leq (.sub (gx 206 201 3) (c 1)) 227,leq 227 (.add (gx 206 201 3) (c 1)),.imp (.cmp .neq 218 (c 1)) (leq 227 (gx 206 201 3)),leq (c 0) 223,leq 223 (.mul (.sub 101 (c 1)) (c 8)),.imp 217 (fb (ix (ex 223 (gx 206 201 0)) (ex 224 (c 0)) (.lit false))),.imp (.cmp .neq 224 (c 0)) (fb (ix (ix (jx 224 (.add (gx 206 201 1) (c 1))) (jx (.sub (gx 206 201 1) (c 1)) 224) (.lit false)) (ix (ex 223 (.add (gx 206 201 0) 224)) (ix (jx (.mn 216 (gx 206 201 1)) 224) (jx 224 (.mx 216 (gx 206 201 1))) (.lit false)) (.lit false)) (.lit false))),.imp (.cmp .neq (gx 206 201 3) (c 0)) (fb 217),.imp (nx 217) (fb (nx 208)),fb (ix (ex 216 207) (.lit true) (ex 216 (c 0))),.imp (ex 218 (c 1)) (fb (ix 217 (ix (ex (gx 206 201 1) (c 0)) (ex (.rem (gx 206 201 0) (c 8)) (c 0)) (.lit false)) (.lit false))),rx 32 [8,201] [206,202],leq (.sub (c 0) 104) 207,leq 207 104,.imp (nx 208) (fb (ix (ix (.cmp .neq (gx 202 201 11) (c (-1))) (.cmp .neq 148 (c 0)) (.lit false)) (.lit true) (ix (ex (gx 206 201 5) (.sub (gx 202 201 5) 111)) (.cmp .neq 147 (c 0)) (.lit false)))),leq (c 0) (gx 206 201 5),leq (gx 206 201 5) 112,rx 12 [8,101,104,105,112,7,102,147,115] [202],rx 33 [8,201,104,111,148] [202,2],leq (c 0) 203,leq 203 201,leq (c 0) 201,leq 201 (.nat 8),fb (nx (ix (ex 147 (c 0)) (ex 148 (c 1)) (.lit false))),fb (.cmp .neq 218 (c 0)),lss 201 (.nat 8),leq (c 0) 8,leq 8 (c 64),rx 16 [101,102,104,105,106,107,108,109,110,111,112,8,7,5,6] [],rx 12 [8,101,104,105,112,7,102,147,115] [2]],rx 12 [8,101,104,105,112,7,102,147,115] [269])]:=by
 repeat' (first|exact .nil|refine au ?_ ?_)
 all_goals(
  intro ρ;(intro h;simp only[vS,IE.den,BE.den,LE.den]at h⊢;revert h;(try simp only[and_imp]);intros)
  have hcf:ρ.i 101≤32∧1≤ρ.i 104∧ρ.i 112≤1048576∧ρ.i 104≤8:=by(simp only[ac,aV]at*;omega)
  have hi:0≤ρ.i 201∧ρ.i 201<ρ.i 8:=by((try simp only[IntKind.wrap_i64,Int.ofNat_toNat]at*);omega)
  have hb:ρ.l 206 (ρ.i 201).toNat 1=ρ.l 202 (ρ.i 201).toNat 1∧ -ρ.i 104≤ρ.l 202 (ρ.i 201).toNat 1∧ρ.l 202 (ρ.i 201).toNat 1≤ρ.i 104∧ρ.l 206 (ρ.i 201).toNat 6=ρ.i 112∧0≤ρ.l 206 (ρ.i 201).toNat 3:=by
   have q:=(by assumption:ac 29 [ρ.i 8,ρ.i 201] [ρ.l 206,ρ.l 202])
   have r:=(by assumption:ac 9 [ρ.i 8,ρ.i 101,ρ.i 104,ρ.i 105,ρ.i 112,ρ.i 7,ρ.i 102,ρ.i 147,ρ.i 115] [ρ.l 202])
   simp only[ac,cW,inv]at q r
   have q:=q (ρ.i 201).toNat (by omega)
   have r:=r.1 (ρ.i 201).toNat (by omega)
   simp only[aC]at r
   omega
  rw[show ρ.l 269=ah (ah (ah (ah (ah (ah (ah (ρ.l 206) (ρ.i 201) 0 (ρ.i 223)) (ρ.i 201) 1 (ρ.i 224)) (ρ.i 201) 2 (ρ.l 206 (ρ.i 201).toNat 2)) (ρ.i 201) 3 (ρ.i 227)) (ρ.i 201) 4 (ρ.l 206 (ρ.i 201).toNat 4)) (ρ.i 201) 7 (ρ.i 229)) (ρ.i 201) 8 (ρ.i 230)by assumption]
  have M:=cz (A:=ρ.l 206) (B:=ρ.l 202) (l0:=ρ.l 2) (i:=ρ.i 201) (i':=ρ.i 268) (p:=ρ.i 223) (v:=ρ.i 224) (o:=ρ.i 227) (x:=ρ.l 206 (ρ.i 201).toNat 5) (L:=ah (ah (ah (ah (ah (ah (ah (ρ.l 206) (ρ.i 201) 0 (ρ.i 223)) (ρ.i 201) 1 (ρ.i 224)) (ρ.i 201) 2 (ρ.l 206 (ρ.i 201).toNat 2)) (ρ.i 201) 3 (ρ.i 227)) (ρ.i 201) 4 (ρ.l 206 (ρ.i 201).toNat 4)) (ρ.i 201) 7 (ρ.i 229)) (ρ.i 201) 8 (ρ.i 230)) (S:=ρ.i 104) (cost:=ρ.i 111) (power:=ρ.i 148) (by assumption) (by assumption) (by assumption) hi.1 hi.2 (by((try simp only[IntKind.wrap_i64,Int.ofNat_toNat]at*);omega)) hcf.2.1
   (fun a ha j=>by simp only[ae,ha,false_and,if_false]) (by simp[ae]) (by simp[ae]) (by simp[ae]) (by simp[ae]) (by simp[ae]) (by omega) (by omega) (by omega) (by grind) (by grind) (by grind) (by grind)
  exact M.1)
theorem aik:ab [([eql 268 (wx (.add 201 (c 1))),rx 0 [] [269,(ux (ux (ux (ux (ux (ux (ux 206 201 0 223) 201 1 224) 201 2 (gx 206 201 2)) 201 3 227) 201 4 (gx 206 201 4)) 201 7 229) 201 8 230)],eql 270 203,leq (c 0) 227,leq 227 (gx 206 201 4),leq (.sub (gx 206 201 3) (c 1)) 227,leq 227 (.add (gx 206 201 3) (c 1)),.imp (.cmp .neq 218 (c 1)) (leq 227 (gx 206 201 3)),leq (c 0) 223,leq 223 (.mul (.sub 101 (c 1)) (c 8)),.imp 217 (fb (ix (ex 223 (gx 206 201 0)) (ex 224 (c 0)) (.lit false))),.imp (.cmp .neq 224 (c 0)) (fb (ix (ix (jx 224 (.add (gx 206 201 1) (c 1))) (jx (.sub (gx 206 201 1) (c 1)) 224) (.lit false)) (ix (ex 223 (.add (gx 206 201 0) 224)) (ix (jx (.mn 216 (gx 206 201 1)) 224) (jx 224 (.mx 216 (gx 206 201 1))) (.lit false)) (.lit false)) (.lit false))),.imp (.cmp .neq (gx 206 201 3) (c 0)) (fb 217),.imp (nx 217) (fb (nx 208)),fb (ix (ex 216 207) (.lit true) (ex 216 (c 0))),.imp (ex 218 (c 1)) (fb (ix 217 (ix (ex (gx 206 201 1) (c 0)) (ex (.rem (gx 206 201 0) (c 8)) (c 0)) (.lit false)) (.lit false))),rx 32 [8,201] [206,202],leq (.sub (c 0) 104) 207,leq 207 104,.imp (nx 208) (fb (ix (ix (.cmp .neq (gx 202 201 11) (c (-1))) (.cmp .neq 148 (c 0)) (.lit false)) (.lit true) (ix (ex (gx 206 201 5) (.sub (gx 202 201 5) 111)) (.cmp .neq 147 (c 0)) (.lit false)))),leq (c 0) (gx 206 201 5),leq (gx 206 201 5) 112,rx 12 [8,101,104,105,112,7,102,147,115] [202],rx 33 [8,201,104,111,148] [202,2],leq (c 0) 203,leq 203 201,leq (c 0) 201,leq 201 (.nat 8),fb (nx (ix (ex 147 (c 0)) (ex 148 (c 1)) (.lit false))),fb (.cmp .neq 218 (c 0)),lss 201 (.nat 8),leq (c 0) 8,leq 8 (c 64),rx 16 [101,102,104,105,106,107,108,109,110,111,112,8,7,5,6] [],rx 12 [8,101,104,105,112,7,102,147,115] [2]],rx 33 [8,268,104,111,148] [269,2])]:=by
 repeat' (first|exact .nil|refine au ?_ ?_)
 all_goals(
  intro ρ;(intro h;simp only[vS,IE.den,BE.den,LE.den]at h⊢;revert h;(try simp only[and_imp]);intros)
  have hcf:ρ.i 101≤32∧1≤ρ.i 104∧ρ.i 112≤1048576∧ρ.i 104≤8:=by(simp only[ac,aV]at*;omega)
  have hi:0≤ρ.i 201∧ρ.i 201<ρ.i 8:=by((try simp only[IntKind.wrap_i64,Int.ofNat_toNat]at*);omega)
  have hb:ρ.l 206 (ρ.i 201).toNat 1=ρ.l 202 (ρ.i 201).toNat 1∧ -ρ.i 104≤ρ.l 202 (ρ.i 201).toNat 1∧ρ.l 202 (ρ.i 201).toNat 1≤ρ.i 104∧ρ.l 206 (ρ.i 201).toNat 6=ρ.i 112∧0≤ρ.l 206 (ρ.i 201).toNat 3:=by
   have q:=(by assumption:ac 29 [ρ.i 8,ρ.i 201] [ρ.l 206,ρ.l 202])
   have r:=(by assumption:ac 9 [ρ.i 8,ρ.i 101,ρ.i 104,ρ.i 105,ρ.i 112,ρ.i 7,ρ.i 102,ρ.i 147,ρ.i 115] [ρ.l 202])
   simp only[ac,cW,inv]at q r
   have q:=q (ρ.i 201).toNat (by omega)
   have r:=r.1 (ρ.i 201).toNat (by omega)
   simp only[aC]at r
   omega
  rw[show ρ.l 269=ah (ah (ah (ah (ah (ah (ah (ρ.l 206) (ρ.i 201) 0 (ρ.i 223)) (ρ.i 201) 1 (ρ.i 224)) (ρ.i 201) 2 (ρ.l 206 (ρ.i 201).toNat 2)) (ρ.i 201) 3 (ρ.i 227)) (ρ.i 201) 4 (ρ.l 206 (ρ.i 201).toNat 4)) (ρ.i 201) 7 (ρ.i 229)) (ρ.i 201) 8 (ρ.i 230)by assumption]
  have M:=cz (A:=ρ.l 206) (B:=ρ.l 202) (l0:=ρ.l 2) (i:=ρ.i 201) (i':=ρ.i 268) (p:=ρ.i 223) (v:=ρ.i 224) (o:=ρ.i 227) (x:=ρ.l 206 (ρ.i 201).toNat 5) (L:=ah (ah (ah (ah (ah (ah (ah (ρ.l 206) (ρ.i 201) 0 (ρ.i 223)) (ρ.i 201) 1 (ρ.i 224)) (ρ.i 201) 2 (ρ.l 206 (ρ.i 201).toNat 2)) (ρ.i 201) 3 (ρ.i 227)) (ρ.i 201) 4 (ρ.l 206 (ρ.i 201).toNat 4)) (ρ.i 201) 7 (ρ.i 229)) (ρ.i 201) 8 (ρ.i 230)) (S:=ρ.i 104) (cost:=ρ.i 111) (power:=ρ.i 148) (by assumption) (by assumption) (by assumption) hi.1 hi.2 (by((try simp only[IntKind.wrap_i64,Int.ofNat_toNat]at*);omega)) hcf.2.1
   (fun a ha j=>by simp only[ae,ha,false_and,if_false]) (by simp[ae]) (by simp[ae]) (by simp[ae]) (by simp[ae]) (by simp[ae]) (by omega) (by omega) (by omega) (by grind) (by grind) (by grind) (by grind)
  exact M.2)
theorem ail:ab [([eql 271 (wx (.add 201 (c 1))),rx 0 [] [272,(ux (ux (ux (ux (ux (ux (ux (ux (ux 206 201 0 242) 201 1 243) 201 2 (gx 206 201 2)) 201 3 246) 201 4 (gx 206 201 4)) 201 7 248) 201 8 249) 201 5 256) 201 6 (gx 206 201 6))],eql 273 (.add (.nat 203) (c 1)),rx 0 [] [273,(ux 203 (.nat 203) 0 252)],leq (c 0) 256,leq 256 (gx 206 201 6),leq (c 0) 246,leq 246 (gx 206 201 4),leq (.sub (gx 206 201 3) (c 1)) 246,leq 246 (.add (gx 206 201 3) (c 1)),.imp (.cmp .neq 218 (c 1)) (leq 246 (gx 206 201 3)),leq (c 0) 242,leq 242 (.mul (.sub 101 (c 1)) (c 8)),.imp 217 (fb (ix (ex 242 (gx 206 201 0)) (ex 243 (c 0)) (.lit false))),.imp (.cmp .neq 243 (c 0)) (fb (ix (ix (jx 243 (.add (gx 206 201 1) (c 1))) (jx (.sub (gx 206 201 1) (c 1)) 243) (.lit false)) (ix (ex 242 (.add (gx 206 201 0) 243)) (ix (jx (.mn 216 (gx 206 201 1)) 243) (jx 243 (.mx 216 (gx 206 201 1))) (.lit false)) (.lit false)) (.lit false))),.imp (.cmp .neq (gx 206 201 3) (c 0)) (fb 217),.imp (nx 217) (fb (nx 208)),fb (ix (ex 216 207) (.lit true) (ex 216 (c 0))),.imp (ex 218 (c 1)) (fb (ix 217 (ix (ex (gx 206 201 1) (c 0)) (ex (.rem (gx 206 201 0) (c 8)) (c 0)) (.lit false)) (.lit false))),rx 32 [8,201] [206,202],leq (.sub (c 0) 104) 207,leq 207 104,.imp (nx 208) (fb (ix (ix (.cmp .neq (gx 202 201 11) (c (-1))) (.cmp .neq 148 (c 0)) (.lit false)) (.lit true) (ix (ex (gx 206 201 5) (.sub (gx 202 201 5) 111)) (.cmp .neq 147 (c 0)) (.lit false)))),leq (c 0) (gx 206 201 5),leq (gx 206 201 5) 112,rx 12 [8,101,104,105,112,7,102,147,115] [202],rx 33 [8,201,104,111,148] [202,2],leq (c 0) 203,leq 203 201,leq (c 0) 201,leq 201 (.nat 8),fb (ix (ex 147 (c 0)) (ex 148 (c 1)) (.lit false)),fb (nx (.cmp .neq 218 (c 0))),lss 201 (.nat 8),leq (c 0) 8,leq 8 (c 64),rx 16 [101,102,104,105,106,107,108,109,110,111,112,8,7,5,6] [],rx 12 [8,101,104,105,112,7,102,147,115] [2]],rx 33 [8,271,104,111,148] [272,2])]:=by
 repeat' (first|exact .nil|refine au ?_ ?_)
 all_goals(
  intro ρ;(intro h;simp only[vS,IE.den,BE.den,LE.den]at h⊢;revert h;(try simp only[and_imp]);intros)
  have hcf:ρ.i 101≤32∧1≤ρ.i 104∧ρ.i 112≤1048576∧ρ.i 104≤8:=by(simp only[ac,aV]at*;omega)
  have hi:0≤ρ.i 201∧ρ.i 201<ρ.i 8:=by((try simp only[IntKind.wrap_i64,Int.ofNat_toNat]at*);omega)
  have hb:ρ.l 206 (ρ.i 201).toNat 1=ρ.l 202 (ρ.i 201).toNat 1∧ -ρ.i 104≤ρ.l 202 (ρ.i 201).toNat 1∧ρ.l 202 (ρ.i 201).toNat 1≤ρ.i 104∧ρ.l 206 (ρ.i 201).toNat 6=ρ.i 112∧0≤ρ.l 206 (ρ.i 201).toNat 3:=by
   have q:=(by assumption:ac 29 [ρ.i 8,ρ.i 201] [ρ.l 206,ρ.l 202])
   have r:=(by assumption:ac 9 [ρ.i 8,ρ.i 101,ρ.i 104,ρ.i 105,ρ.i 112,ρ.i 7,ρ.i 102,ρ.i 147,ρ.i 115] [ρ.l 202])
   simp only[ac,cW,inv]at q r
   have q:=q (ρ.i 201).toNat (by omega)
   have r:=r.1 (ρ.i 201).toNat (by omega)
   simp only[aC]at r
   omega
  rw[show ρ.l 272=ah (ah (ah (ah (ah (ah (ah (ah (ah (ρ.l 206) (ρ.i 201) 0 (ρ.i 242)) (ρ.i 201) 1 (ρ.i 243)) (ρ.i 201) 2 (ρ.l 206 (ρ.i 201).toNat 2)) (ρ.i 201) 3 (ρ.i 246)) (ρ.i 201) 4 (ρ.l 206 (ρ.i 201).toNat 4)) (ρ.i 201) 7 (ρ.i 248)) (ρ.i 201) 8 (ρ.i 249)) (ρ.i 201) 5 (ρ.i 256)) (ρ.i 201) 6 (ρ.l 206 (ρ.i 201).toNat 6)by assumption]
  have M:=cz (A:=ρ.l 206) (B:=ρ.l 202) (l0:=ρ.l 2) (i:=ρ.i 201) (i':=ρ.i 271) (p:=ρ.i 242) (v:=ρ.i 243) (o:=ρ.i 246) (x:=ρ.i 256) (L:=ah (ah (ah (ah (ah (ah (ah (ah (ah (ρ.l 206) (ρ.i 201) 0 (ρ.i 242)) (ρ.i 201) 1 (ρ.i 243)) (ρ.i 201) 2 (ρ.l 206 (ρ.i 201).toNat 2)) (ρ.i 201) 3 (ρ.i 246)) (ρ.i 201) 4 (ρ.l 206 (ρ.i 201).toNat 4)) (ρ.i 201) 7 (ρ.i 248)) (ρ.i 201) 8 (ρ.i 249)) (ρ.i 201) 5 (ρ.i 256)) (ρ.i 201) 6 (ρ.l 206 (ρ.i 201).toNat 6)) (S:=ρ.i 104) (cost:=ρ.i 111) (power:=ρ.i 148) (by assumption) (by assumption) (by assumption) hi.1 hi.2 (by((try simp only[IntKind.wrap_i64,Int.ofNat_toNat]at*);omega)) hcf.2.1
   (fun a ha j=>by simp only[ae,ha,false_and,if_false]) (by simp[ae]) (by simp[ae]) (by simp[ae]) (by simp[ae]) (by simp[ae]) (by omega) (by omega) (by omega) (by grind) (by grind) (by grind) (by grind)
  exact M.2)
theorem aim:ab [([eql 274 (wx (.add 201 (c 1))),rx 0 [] [275,(ux (ux (ux (ux (ux (ux (ux 206 201 0 242) 201 1 243) 201 2 (gx 206 201 2)) 201 3 246) 201 4 (gx 206 201 4)) 201 7 248) 201 8 249)],eql 276 (.add (.nat 203) (c 1)),rx 0 [] [276,(ux 203 (.nat 203) 0 252)],leq (c 0) 246,leq 246 (gx 206 201 4),leq (.sub (gx 206 201 3) (c 1)) 246,leq 246 (.add (gx 206 201 3) (c 1)),.imp (.cmp .neq 218 (c 1)) (leq 246 (gx 206 201 3)),leq (c 0) 242,leq 242 (.mul (.sub 101 (c 1)) (c 8)),.imp 217 (fb (ix (ex 242 (gx 206 201 0)) (ex 243 (c 0)) (.lit false))),.imp (.cmp .neq 243 (c 0)) (fb (ix (ix (jx 243 (.add (gx 206 201 1) (c 1))) (jx (.sub (gx 206 201 1) (c 1)) 243) (.lit false)) (ix (ex 242 (.add (gx 206 201 0) 243)) (ix (jx (.mn 216 (gx 206 201 1)) 243) (jx 243 (.mx 216 (gx 206 201 1))) (.lit false)) (.lit false)) (.lit false))),.imp (.cmp .neq (gx 206 201 3) (c 0)) (fb 217),.imp (nx 217) (fb (nx 208)),fb (ix (ex 216 207) (.lit true) (ex 216 (c 0))),.imp (ex 218 (c 1)) (fb (ix 217 (ix (ex (gx 206 201 1) (c 0)) (ex (.rem (gx 206 201 0) (c 8)) (c 0)) (.lit false)) (.lit false))),rx 32 [8,201] [206,202],leq (.sub (c 0) 104) 207,leq 207 104,.imp (nx 208) (fb (ix (ix (.cmp .neq (gx 202 201 11) (c (-1))) (.cmp .neq 148 (c 0)) (.lit false)) (.lit true) (ix (ex (gx 206 201 5) (.sub (gx 202 201 5) 111)) (.cmp .neq 147 (c 0)) (.lit false)))),leq (c 0) (gx 206 201 5),leq (gx 206 201 5) 112,rx 12 [8,101,104,105,112,7,102,147,115] [202],rx 33 [8,201,104,111,148] [202,2],leq (c 0) 203,leq 203 201,leq (c 0) 201,leq 201 (.nat 8),fb (nx (ix (ex 147 (c 0)) (ex 148 (c 1)) (.lit false))),fb (nx (.cmp .neq 218 (c 0))),lss 201 (.nat 8),leq (c 0) 8,leq 8 (c 64),rx 16 [101,102,104,105,106,107,108,109,110,111,112,8,7,5,6] [],rx 12 [8,101,104,105,112,7,102,147,115] [2]],rx 12 [8,101,104,105,112,7,102,147,115] [275])]:=by
 repeat' (first|exact .nil|refine au ?_ ?_)
 all_goals(
  intro ρ;(intro h;simp only[vS,IE.den,BE.den,LE.den]at h⊢;revert h;(try simp only[and_imp]);intros)
  have hcf:ρ.i 101≤32∧1≤ρ.i 104∧ρ.i 112≤1048576∧ρ.i 104≤8:=by(simp only[ac,aV]at*;omega)
  have hi:0≤ρ.i 201∧ρ.i 201<ρ.i 8:=by((try simp only[IntKind.wrap_i64,Int.ofNat_toNat]at*);omega)
  have hb:ρ.l 206 (ρ.i 201).toNat 1=ρ.l 202 (ρ.i 201).toNat 1∧ -ρ.i 104≤ρ.l 202 (ρ.i 201).toNat 1∧ρ.l 202 (ρ.i 201).toNat 1≤ρ.i 104∧ρ.l 206 (ρ.i 201).toNat 6=ρ.i 112∧0≤ρ.l 206 (ρ.i 201).toNat 3:=by
   have q:=(by assumption:ac 29 [ρ.i 8,ρ.i 201] [ρ.l 206,ρ.l 202])
   have r:=(by assumption:ac 9 [ρ.i 8,ρ.i 101,ρ.i 104,ρ.i 105,ρ.i 112,ρ.i 7,ρ.i 102,ρ.i 147,ρ.i 115] [ρ.l 202])
   simp only[ac,cW,inv]at q r
   have q:=q (ρ.i 201).toNat (by omega)
   have r:=r.1 (ρ.i 201).toNat (by omega)
   simp only[aC]at r
   omega
  rw[show ρ.l 275=ah (ah (ah (ah (ah (ah (ah (ρ.l 206) (ρ.i 201) 0 (ρ.i 242)) (ρ.i 201) 1 (ρ.i 243)) (ρ.i 201) 2 (ρ.l 206 (ρ.i 201).toNat 2)) (ρ.i 201) 3 (ρ.i 246)) (ρ.i 201) 4 (ρ.l 206 (ρ.i 201).toNat 4)) (ρ.i 201) 7 (ρ.i 248)) (ρ.i 201) 8 (ρ.i 249)by assumption]
  have M:=cz (A:=ρ.l 206) (B:=ρ.l 202) (l0:=ρ.l 2) (i:=ρ.i 201) (i':=ρ.i 274) (p:=ρ.i 242) (v:=ρ.i 243) (o:=ρ.i 246) (x:=ρ.l 206 (ρ.i 201).toNat 5) (L:=ah (ah (ah (ah (ah (ah (ah (ρ.l 206) (ρ.i 201) 0 (ρ.i 242)) (ρ.i 201) 1 (ρ.i 243)) (ρ.i 201) 2 (ρ.l 206 (ρ.i 201).toNat 2)) (ρ.i 201) 3 (ρ.i 246)) (ρ.i 201) 4 (ρ.l 206 (ρ.i 201).toNat 4)) (ρ.i 201) 7 (ρ.i 248)) (ρ.i 201) 8 (ρ.i 249)) (S:=ρ.i 104) (cost:=ρ.i 111) (power:=ρ.i 148) (by assumption) (by assumption) (by assumption) hi.1 hi.2 (by((try simp only[IntKind.wrap_i64,Int.ofNat_toNat]at*);omega)) hcf.2.1
   (fun a ha j=>by simp only[ae,ha,false_and,if_false]) (by simp[ae]) (by simp[ae]) (by simp[ae]) (by simp[ae]) (by simp[ae]) (by omega) (by omega) (by omega) (by grind) (by grind) (by grind) (by grind)
  exact M.1)
theorem ain:ab [([eql 274 (wx (.add 201 (c 1))),rx 0 [] [275,(ux (ux (ux (ux (ux (ux (ux 206 201 0 242) 201 1 243) 201 2 (gx 206 201 2)) 201 3 246) 201 4 (gx 206 201 4)) 201 7 248) 201 8 249)],eql 276 (.add (.nat 203) (c 1)),rx 0 [] [276,(ux 203 (.nat 203) 0 252)],leq (c 0) 246,leq 246 (gx 206 201 4),leq (.sub (gx 206 201 3) (c 1)) 246,leq 246 (.add (gx 206 201 3) (c 1)),.imp (.cmp .neq 218 (c 1)) (leq 246 (gx 206 201 3)),leq (c 0) 242,leq 242 (.mul (.sub 101 (c 1)) (c 8)),.imp 217 (fb (ix (ex 242 (gx 206 201 0)) (ex 243 (c 0)) (.lit false))),.imp (.cmp .neq 243 (c 0)) (fb (ix (ix (jx 243 (.add (gx 206 201 1) (c 1))) (jx (.sub (gx 206 201 1) (c 1)) 243) (.lit false)) (ix (ex 242 (.add (gx 206 201 0) 243)) (ix (jx (.mn 216 (gx 206 201 1)) 243) (jx 243 (.mx 216 (gx 206 201 1))) (.lit false)) (.lit false)) (.lit false))),.imp (.cmp .neq (gx 206 201 3) (c 0)) (fb 217),.imp (nx 217) (fb (nx 208)),fb (ix (ex 216 207) (.lit true) (ex 216 (c 0))),.imp (ex 218 (c 1)) (fb (ix 217 (ix (ex (gx 206 201 1) (c 0)) (ex (.rem (gx 206 201 0) (c 8)) (c 0)) (.lit false)) (.lit false))),rx 32 [8,201] [206,202],leq (.sub (c 0) 104) 207,leq 207 104,.imp (nx 208) (fb (ix (ix (.cmp .neq (gx 202 201 11) (c (-1))) (.cmp .neq 148 (c 0)) (.lit false)) (.lit true) (ix (ex (gx 206 201 5) (.sub (gx 202 201 5) 111)) (.cmp .neq 147 (c 0)) (.lit false)))),leq (c 0) (gx 206 201 5),leq (gx 206 201 5) 112,rx 12 [8,101,104,105,112,7,102,147,115] [202],rx 33 [8,201,104,111,148] [202,2],leq (c 0) 203,leq 203 201,leq (c 0) 201,leq 201 (.nat 8),fb (nx (ix (ex 147 (c 0)) (ex 148 (c 1)) (.lit false))),fb (nx (.cmp .neq 218 (c 0))),lss 201 (.nat 8),leq (c 0) 8,leq 8 (c 64),rx 16 [101,102,104,105,106,107,108,109,110,111,112,8,7,5,6] [],rx 12 [8,101,104,105,112,7,102,147,115] [2]],rx 33 [8,274,104,111,148] [275,2])]:=by
 repeat' (first|exact .nil|refine au ?_ ?_)
 all_goals(
  intro ρ;(intro h;simp only[vS,IE.den,BE.den,LE.den]at h⊢;revert h;(try simp only[and_imp]);intros)
  have hcf:ρ.i 101≤32∧1≤ρ.i 104∧ρ.i 112≤1048576∧ρ.i 104≤8:=by(simp only[ac,aV]at*;omega)
  have hi:0≤ρ.i 201∧ρ.i 201<ρ.i 8:=by((try simp only[IntKind.wrap_i64,Int.ofNat_toNat]at*);omega)
  have hb:ρ.l 206 (ρ.i 201).toNat 1=ρ.l 202 (ρ.i 201).toNat 1∧ -ρ.i 104≤ρ.l 202 (ρ.i 201).toNat 1∧ρ.l 202 (ρ.i 201).toNat 1≤ρ.i 104∧ρ.l 206 (ρ.i 201).toNat 6=ρ.i 112∧0≤ρ.l 206 (ρ.i 201).toNat 3:=by
   have q:=(by assumption:ac 29 [ρ.i 8,ρ.i 201] [ρ.l 206,ρ.l 202])
   have r:=(by assumption:ac 9 [ρ.i 8,ρ.i 101,ρ.i 104,ρ.i 105,ρ.i 112,ρ.i 7,ρ.i 102,ρ.i 147,ρ.i 115] [ρ.l 202])
   simp only[ac,cW,inv]at q r
   have q:=q (ρ.i 201).toNat (by omega)
   have r:=r.1 (ρ.i 201).toNat (by omega)
   simp only[aC]at r
   omega
  rw[show ρ.l 275=ah (ah (ah (ah (ah (ah (ah (ρ.l 206) (ρ.i 201) 0 (ρ.i 242)) (ρ.i 201) 1 (ρ.i 243)) (ρ.i 201) 2 (ρ.l 206 (ρ.i 201).toNat 2)) (ρ.i 201) 3 (ρ.i 246)) (ρ.i 201) 4 (ρ.l 206 (ρ.i 201).toNat 4)) (ρ.i 201) 7 (ρ.i 248)) (ρ.i 201) 8 (ρ.i 249)by assumption]
  have M:=cz (A:=ρ.l 206) (B:=ρ.l 202) (l0:=ρ.l 2) (i:=ρ.i 201) (i':=ρ.i 274) (p:=ρ.i 242) (v:=ρ.i 243) (o:=ρ.i 246) (x:=ρ.l 206 (ρ.i 201).toNat 5) (L:=ah (ah (ah (ah (ah (ah (ah (ρ.l 206) (ρ.i 201) 0 (ρ.i 242)) (ρ.i 201) 1 (ρ.i 243)) (ρ.i 201) 2 (ρ.l 206 (ρ.i 201).toNat 2)) (ρ.i 201) 3 (ρ.i 246)) (ρ.i 201) 4 (ρ.l 206 (ρ.i 201).toNat 4)) (ρ.i 201) 7 (ρ.i 248)) (ρ.i 201) 8 (ρ.i 249)) (S:=ρ.i 104) (cost:=ρ.i 111) (power:=ρ.i 148) (by assumption) (by assumption) (by assumption) hi.1 hi.2 (by((try simp only[IntKind.wrap_i64,Int.ofNat_toNat]at*);omega)) hcf.2.1
   (fun a ha j=>by simp only[ae,ha,false_and,if_false]) (by simp[ae]) (by simp[ae]) (by simp[ae]) (by simp[ae]) (by simp[ae]) (by omega) (by omega) (by omega) (by grind) (by grind) (by grind) (by grind)
  exact M.2)
theorem aio:ab [([eql 277 (wx (.add 201 (c 1))),rx 0 [] [278,(ux (ux (ux (ux (ux (ux (ux (ux (ux 206 201 0 242) 201 1 243) 201 2 (gx 206 201 2)) 201 3 246) 201 4 (gx 206 201 4)) 201 7 248) 201 8 249) 201 5 258) 201 6 (gx 206 201 6))],eql 279 203,leq (c 0) 258,leq 258 (gx 206 201 6),leq (c 0) 246,leq 246 (gx 206 201 4),leq (.sub (gx 206 201 3) (c 1)) 246,leq 246 (.add (gx 206 201 3) (c 1)),.imp (.cmp .neq 218 (c 1)) (leq 246 (gx 206 201 3)),leq (c 0) 242,leq 242 (.mul (.sub 101 (c 1)) (c 8)),.imp 217 (fb (ix (ex 242 (gx 206 201 0)) (ex 243 (c 0)) (.lit false))),.imp (.cmp .neq 243 (c 0)) (fb (ix (ix (jx 243 (.add (gx 206 201 1) (c 1))) (jx (.sub (gx 206 201 1) (c 1)) 243) (.lit false)) (ix (ex 242 (.add (gx 206 201 0) 243)) (ix (jx (.mn 216 (gx 206 201 1)) 243) (jx 243 (.mx 216 (gx 206 201 1))) (.lit false)) (.lit false)) (.lit false))),.imp (.cmp .neq (gx 206 201 3) (c 0)) (fb 217),.imp (nx 217) (fb (nx 208)),fb (ix (ex 216 207) (.lit true) (ex 216 (c 0))),.imp (ex 218 (c 1)) (fb (ix 217 (ix (ex (gx 206 201 1) (c 0)) (ex (.rem (gx 206 201 0) (c 8)) (c 0)) (.lit false)) (.lit false))),rx 32 [8,201] [206,202],leq (.sub (c 0) 104) 207,leq 207 104,.imp (nx 208) (fb (ix (ix (.cmp .neq (gx 202 201 11) (c (-1))) (.cmp .neq 148 (c 0)) (.lit false)) (.lit true) (ix (ex (gx 206 201 5) (.sub (gx 202 201 5) 111)) (.cmp .neq 147 (c 0)) (.lit false)))),leq (c 0) (gx 206 201 5),leq (gx 206 201 5) 112,rx 12 [8,101,104,105,112,7,102,147,115] [202],rx 33 [8,201,104,111,148] [202,2],leq (c 0) 203,leq 203 201,leq (c 0) 201,leq 201 (.nat 8),fb (ix (ex 147 (c 0)) (ex 148 (c 1)) (.lit false)),fb (nx (.cmp .neq 218 (c 0))),lss 201 (.nat 8),leq (c 0) 8,leq 8 (c 64),rx 16 [101,102,104,105,106,107,108,109,110,111,112,8,7,5,6] [],rx 12 [8,101,104,105,112,7,102,147,115] [2]],rx 33 [8,277,104,111,148] [278,2])]:=by
 repeat' (first|exact .nil|refine au ?_ ?_)
 all_goals(
  intro ρ;(intro h;simp only[vS,IE.den,BE.den,LE.den]at h⊢;revert h;(try simp only[and_imp]);intros)
  have hcf:ρ.i 101≤32∧1≤ρ.i 104∧ρ.i 112≤1048576∧ρ.i 104≤8:=by(simp only[ac,aV]at*;omega)
  have hi:0≤ρ.i 201∧ρ.i 201<ρ.i 8:=by((try simp only[IntKind.wrap_i64,Int.ofNat_toNat]at*);omega)
  have hb:ρ.l 206 (ρ.i 201).toNat 1=ρ.l 202 (ρ.i 201).toNat 1∧ -ρ.i 104≤ρ.l 202 (ρ.i 201).toNat 1∧ρ.l 202 (ρ.i 201).toNat 1≤ρ.i 104∧ρ.l 206 (ρ.i 201).toNat 6=ρ.i 112∧0≤ρ.l 206 (ρ.i 201).toNat 3:=by
   have q:=(by assumption:ac 29 [ρ.i 8,ρ.i 201] [ρ.l 206,ρ.l 202])
   have r:=(by assumption:ac 9 [ρ.i 8,ρ.i 101,ρ.i 104,ρ.i 105,ρ.i 112,ρ.i 7,ρ.i 102,ρ.i 147,ρ.i 115] [ρ.l 202])
   simp only[ac,cW,inv]at q r
   have q:=q (ρ.i 201).toNat (by omega)
   have r:=r.1 (ρ.i 201).toNat (by omega)
   simp only[aC]at r
   omega
  rw[show ρ.l 278=ah (ah (ah (ah (ah (ah (ah (ah (ah (ρ.l 206) (ρ.i 201) 0 (ρ.i 242)) (ρ.i 201) 1 (ρ.i 243)) (ρ.i 201) 2 (ρ.l 206 (ρ.i 201).toNat 2)) (ρ.i 201) 3 (ρ.i 246)) (ρ.i 201) 4 (ρ.l 206 (ρ.i 201).toNat 4)) (ρ.i 201) 7 (ρ.i 248)) (ρ.i 201) 8 (ρ.i 249)) (ρ.i 201) 5 (ρ.i 258)) (ρ.i 201) 6 (ρ.l 206 (ρ.i 201).toNat 6)by assumption]
  have M:=cz (A:=ρ.l 206) (B:=ρ.l 202) (l0:=ρ.l 2) (i:=ρ.i 201) (i':=ρ.i 277) (p:=ρ.i 242) (v:=ρ.i 243) (o:=ρ.i 246) (x:=ρ.i 258) (L:=ah (ah (ah (ah (ah (ah (ah (ah (ah (ρ.l 206) (ρ.i 201) 0 (ρ.i 242)) (ρ.i 201) 1 (ρ.i 243)) (ρ.i 201) 2 (ρ.l 206 (ρ.i 201).toNat 2)) (ρ.i 201) 3 (ρ.i 246)) (ρ.i 201) 4 (ρ.l 206 (ρ.i 201).toNat 4)) (ρ.i 201) 7 (ρ.i 248)) (ρ.i 201) 8 (ρ.i 249)) (ρ.i 201) 5 (ρ.i 258)) (ρ.i 201) 6 (ρ.l 206 (ρ.i 201).toNat 6)) (S:=ρ.i 104) (cost:=ρ.i 111) (power:=ρ.i 148) (by assumption) (by assumption) (by assumption) hi.1 hi.2 (by((try simp only[IntKind.wrap_i64,Int.ofNat_toNat]at*);omega)) hcf.2.1
   (fun a ha j=>by simp only[ae,ha,false_and,if_false]) (by simp[ae]) (by simp[ae]) (by simp[ae]) (by simp[ae]) (by simp[ae]) (by omega) (by omega) (by omega) (by grind) (by grind) (by grind) (by grind)
  exact M.2)
theorem aip:ab [([eql 280 (wx (.add 201 (c 1))),rx 0 [] [281,(ux (ux (ux (ux (ux (ux (ux 206 201 0 242) 201 1 243) 201 2 (gx 206 201 2)) 201 3 246) 201 4 (gx 206 201 4)) 201 7 248) 201 8 249)],eql 282 203,leq (c 0) 246,leq 246 (gx 206 201 4),leq (.sub (gx 206 201 3) (c 1)) 246,leq 246 (.add (gx 206 201 3) (c 1)),.imp (.cmp .neq 218 (c 1)) (leq 246 (gx 206 201 3)),leq (c 0) 242,leq 242 (.mul (.sub 101 (c 1)) (c 8)),.imp 217 (fb (ix (ex 242 (gx 206 201 0)) (ex 243 (c 0)) (.lit false))),.imp (.cmp .neq 243 (c 0)) (fb (ix (ix (jx 243 (.add (gx 206 201 1) (c 1))) (jx (.sub (gx 206 201 1) (c 1)) 243) (.lit false)) (ix (ex 242 (.add (gx 206 201 0) 243)) (ix (jx (.mn 216 (gx 206 201 1)) 243) (jx 243 (.mx 216 (gx 206 201 1))) (.lit false)) (.lit false)) (.lit false))),.imp (.cmp .neq (gx 206 201 3) (c 0)) (fb 217),.imp (nx 217) (fb (nx 208)),fb (ix (ex 216 207) (.lit true) (ex 216 (c 0))),.imp (ex 218 (c 1)) (fb (ix 217 (ix (ex (gx 206 201 1) (c 0)) (ex (.rem (gx 206 201 0) (c 8)) (c 0)) (.lit false)) (.lit false))),rx 32 [8,201] [206,202],leq (.sub (c 0) 104) 207,leq 207 104,.imp (nx 208) (fb (ix (ix (.cmp .neq (gx 202 201 11) (c (-1))) (.cmp .neq 148 (c 0)) (.lit false)) (.lit true) (ix (ex (gx 206 201 5) (.sub (gx 202 201 5) 111)) (.cmp .neq 147 (c 0)) (.lit false)))),leq (c 0) (gx 206 201 5),leq (gx 206 201 5) 112,rx 12 [8,101,104,105,112,7,102,147,115] [202],rx 33 [8,201,104,111,148] [202,2],leq (c 0) 203,leq 203 201,leq (c 0) 201,leq 201 (.nat 8),fb (nx (ix (ex 147 (c 0)) (ex 148 (c 1)) (.lit false))),fb (nx (.cmp .neq 218 (c 0))),lss 201 (.nat 8),leq (c 0) 8,leq 8 (c 64),rx 16 [101,102,104,105,106,107,108,109,110,111,112,8,7,5,6] [],rx 12 [8,101,104,105,112,7,102,147,115] [2]],rx 12 [8,101,104,105,112,7,102,147,115] [281])]:=by
 repeat' (first|exact .nil|refine au ?_ ?_)
 all_goals(
  intro ρ;(intro h;simp only[vS,IE.den,BE.den,LE.den]at h⊢;revert h;(try simp only[and_imp]);intros)
  have hcf:ρ.i 101≤32∧1≤ρ.i 104∧ρ.i 112≤1048576∧ρ.i 104≤8:=by(simp only[ac,aV]at*;omega)
  have hi:0≤ρ.i 201∧ρ.i 201<ρ.i 8:=by((try simp only[IntKind.wrap_i64,Int.ofNat_toNat]at*);omega)
  have hb:ρ.l 206 (ρ.i 201).toNat 1=ρ.l 202 (ρ.i 201).toNat 1∧ -ρ.i 104≤ρ.l 202 (ρ.i 201).toNat 1∧ρ.l 202 (ρ.i 201).toNat 1≤ρ.i 104∧ρ.l 206 (ρ.i 201).toNat 6=ρ.i 112∧0≤ρ.l 206 (ρ.i 201).toNat 3:=by
   have q:=(by assumption:ac 29 [ρ.i 8,ρ.i 201] [ρ.l 206,ρ.l 202])
   have r:=(by assumption:ac 9 [ρ.i 8,ρ.i 101,ρ.i 104,ρ.i 105,ρ.i 112,ρ.i 7,ρ.i 102,ρ.i 147,ρ.i 115] [ρ.l 202])
   simp only[ac,cW,inv]at q r
   have q:=q (ρ.i 201).toNat (by omega)
   have r:=r.1 (ρ.i 201).toNat (by omega)
   simp only[aC]at r
   omega
  rw[show ρ.l 281=ah (ah (ah (ah (ah (ah (ah (ρ.l 206) (ρ.i 201) 0 (ρ.i 242)) (ρ.i 201) 1 (ρ.i 243)) (ρ.i 201) 2 (ρ.l 206 (ρ.i 201).toNat 2)) (ρ.i 201) 3 (ρ.i 246)) (ρ.i 201) 4 (ρ.l 206 (ρ.i 201).toNat 4)) (ρ.i 201) 7 (ρ.i 248)) (ρ.i 201) 8 (ρ.i 249)by assumption]
  have M:=cz (A:=ρ.l 206) (B:=ρ.l 202) (l0:=ρ.l 2) (i:=ρ.i 201) (i':=ρ.i 280) (p:=ρ.i 242) (v:=ρ.i 243) (o:=ρ.i 246) (x:=ρ.l 206 (ρ.i 201).toNat 5) (L:=ah (ah (ah (ah (ah (ah (ah (ρ.l 206) (ρ.i 201) 0 (ρ.i 242)) (ρ.i 201) 1 (ρ.i 243)) (ρ.i 201) 2 (ρ.l 206 (ρ.i 201).toNat 2)) (ρ.i 201) 3 (ρ.i 246)) (ρ.i 201) 4 (ρ.l 206 (ρ.i 201).toNat 4)) (ρ.i 201) 7 (ρ.i 248)) (ρ.i 201) 8 (ρ.i 249)) (S:=ρ.i 104) (cost:=ρ.i 111) (power:=ρ.i 148) (by assumption) (by assumption) (by assumption) hi.1 hi.2 (by((try simp only[IntKind.wrap_i64,Int.ofNat_toNat]at*);omega)) hcf.2.1
   (fun a ha j=>by simp only[ae,ha,false_and,if_false]) (by simp[ae]) (by simp[ae]) (by simp[ae]) (by simp[ae]) (by simp[ae]) (by omega) (by omega) (by omega) (by grind) (by grind) (by grind) (by grind)
  exact M.1)
theorem aiq:ab [([eql 280 (wx (.add 201 (c 1))),rx 0 [] [281,(ux (ux (ux (ux (ux (ux (ux 206 201 0 242) 201 1 243) 201 2 (gx 206 201 2)) 201 3 246) 201 4 (gx 206 201 4)) 201 7 248) 201 8 249)],eql 282 203,leq (c 0) 246,leq 246 (gx 206 201 4),leq (.sub (gx 206 201 3) (c 1)) 246,leq 246 (.add (gx 206 201 3) (c 1)),.imp (.cmp .neq 218 (c 1)) (leq 246 (gx 206 201 3)),leq (c 0) 242,leq 242 (.mul (.sub 101 (c 1)) (c 8)),.imp 217 (fb (ix (ex 242 (gx 206 201 0)) (ex 243 (c 0)) (.lit false))),.imp (.cmp .neq 243 (c 0)) (fb (ix (ix (jx 243 (.add (gx 206 201 1) (c 1))) (jx (.sub (gx 206 201 1) (c 1)) 243) (.lit false)) (ix (ex 242 (.add (gx 206 201 0) 243)) (ix (jx (.mn 216 (gx 206 201 1)) 243) (jx 243 (.mx 216 (gx 206 201 1))) (.lit false)) (.lit false)) (.lit false))),.imp (.cmp .neq (gx 206 201 3) (c 0)) (fb 217),.imp (nx 217) (fb (nx 208)),fb (ix (ex 216 207) (.lit true) (ex 216 (c 0))),.imp (ex 218 (c 1)) (fb (ix 217 (ix (ex (gx 206 201 1) (c 0)) (ex (.rem (gx 206 201 0) (c 8)) (c 0)) (.lit false)) (.lit false))),rx 32 [8,201] [206,202],leq (.sub (c 0) 104) 207,leq 207 104,.imp (nx 208) (fb (ix (ix (.cmp .neq (gx 202 201 11) (c (-1))) (.cmp .neq 148 (c 0)) (.lit false)) (.lit true) (ix (ex (gx 206 201 5) (.sub (gx 202 201 5) 111)) (.cmp .neq 147 (c 0)) (.lit false)))),leq (c 0) (gx 206 201 5),leq (gx 206 201 5) 112,rx 12 [8,101,104,105,112,7,102,147,115] [202],rx 33 [8,201,104,111,148] [202,2],leq (c 0) 203,leq 203 201,leq (c 0) 201,leq 201 (.nat 8),fb (nx (ix (ex 147 (c 0)) (ex 148 (c 1)) (.lit false))),fb (nx (.cmp .neq 218 (c 0))),lss 201 (.nat 8),leq (c 0) 8,leq 8 (c 64),rx 16 [101,102,104,105,106,107,108,109,110,111,112,8,7,5,6] [],rx 12 [8,101,104,105,112,7,102,147,115] [2]],rx 33 [8,280,104,111,148] [281,2])]:=by
 repeat' (first|exact .nil|refine au ?_ ?_)
 all_goals(
  intro ρ;(intro h;simp only[vS,IE.den,BE.den,LE.den]at h⊢;revert h;(try simp only[and_imp]);intros)
  have hcf:ρ.i 101≤32∧1≤ρ.i 104∧ρ.i 112≤1048576∧ρ.i 104≤8:=by(simp only[ac,aV]at*;omega)
  have hi:0≤ρ.i 201∧ρ.i 201<ρ.i 8:=by((try simp only[IntKind.wrap_i64,Int.ofNat_toNat]at*);omega)
  have hb:ρ.l 206 (ρ.i 201).toNat 1=ρ.l 202 (ρ.i 201).toNat 1∧ -ρ.i 104≤ρ.l 202 (ρ.i 201).toNat 1∧ρ.l 202 (ρ.i 201).toNat 1≤ρ.i 104∧ρ.l 206 (ρ.i 201).toNat 6=ρ.i 112∧0≤ρ.l 206 (ρ.i 201).toNat 3:=by
   have q:=(by assumption:ac 29 [ρ.i 8,ρ.i 201] [ρ.l 206,ρ.l 202])
   have r:=(by assumption:ac 9 [ρ.i 8,ρ.i 101,ρ.i 104,ρ.i 105,ρ.i 112,ρ.i 7,ρ.i 102,ρ.i 147,ρ.i 115] [ρ.l 202])
   simp only[ac,cW,inv]at q r
   have q:=q (ρ.i 201).toNat (by omega)
   have r:=r.1 (ρ.i 201).toNat (by omega)
   simp only[aC]at r
   omega
  rw[show ρ.l 281=ah (ah (ah (ah (ah (ah (ah (ρ.l 206) (ρ.i 201) 0 (ρ.i 242)) (ρ.i 201) 1 (ρ.i 243)) (ρ.i 201) 2 (ρ.l 206 (ρ.i 201).toNat 2)) (ρ.i 201) 3 (ρ.i 246)) (ρ.i 201) 4 (ρ.l 206 (ρ.i 201).toNat 4)) (ρ.i 201) 7 (ρ.i 248)) (ρ.i 201) 8 (ρ.i 249)by assumption]
  have M:=cz (A:=ρ.l 206) (B:=ρ.l 202) (l0:=ρ.l 2) (i:=ρ.i 201) (i':=ρ.i 280) (p:=ρ.i 242) (v:=ρ.i 243) (o:=ρ.i 246) (x:=ρ.l 206 (ρ.i 201).toNat 5) (L:=ah (ah (ah (ah (ah (ah (ah (ρ.l 206) (ρ.i 201) 0 (ρ.i 242)) (ρ.i 201) 1 (ρ.i 243)) (ρ.i 201) 2 (ρ.l 206 (ρ.i 201).toNat 2)) (ρ.i 201) 3 (ρ.i 246)) (ρ.i 201) 4 (ρ.l 206 (ρ.i 201).toNat 4)) (ρ.i 201) 7 (ρ.i 248)) (ρ.i 201) 8 (ρ.i 249)) (S:=ρ.i 104) (cost:=ρ.i 111) (power:=ρ.i 148) (by assumption) (by assumption) (by assumption) hi.1 hi.2 (by((try simp only[IntKind.wrap_i64,Int.ofNat_toNat]at*);omega)) hcf.2.1
   (fun a ha j=>by simp only[ae,ha,false_and,if_false]) (by simp[ae]) (by simp[ae]) (by simp[ae]) (by simp[ae]) (by simp[ae]) (by omega) (by omega) (by omega) (by grind) (by grind) (by grind) (by grind)
  exact M.2)
theorem air:ab [([leq (c 0) 8,rx 33 [8,201,104,111,148] [202,2],leq 201 (.nat 8),fb (nx (lx 201 (.nat 8)))],rx 33 [8,8,104,111,148] [202,2])]:=kj
theorem Ug:act.ok Tryz.prog:=ao (.cons U5 (.cons uD (.cons BA (.cons uE (.cons Gx (.cons BC (.cons BD (.cons a3i (.cons a3k .nil))))))))) cy (a5t aj3 (a5t aj4 (a5t aj5 (a5t aj6 (a5t aj7 (a5t aj8 (a5t aj9 (a5t aja (a5t ajb (a5t ajc (a5t aie (a5t aif (a5t aig (a5t aih (a5t aii (a5t aij (a5t aik (a5t ail (a5t aim (a5t ain (a5t aio (a5t aip (a5t aiq air))))))))))))))))))))))) [3,4,5,6,7,8,2,2,0,9,10,0,0,0,0,0,54,55,62,63,68,69,56,57,0,64,65,70,0,0,0,0,0,71,72,73,0,0,11,2,0,85,74,0,0,85,74,0,0,0,54,55,62,63,68,69,56,57,0,64,65,70,0,0,0,0,0,71,72,73,0,0,11,2,0,85,74,0,0,85,74,0,13,90,93,14,15,16,17,18,94,95,19,20,21,22,23,96,97,24,25,26,27,28,98,99,29,30,31,32,33,91,100,34,35,36,37,38,101,102,39,40,41,42,43,92,103,44,45,46,47,48,104,105,49,50,51,52,53,2,106,2,53] (by kernel_rfl)
theorem a3q:ab [([rx 0 [] [202,2]],rx 34 [8,201] [202,2])]:=by
 repeat' (first|exact .nil|refine au ?_ ?_)
 all_goals(
  intro ρ h;simp only[vS,IE.den,BE.den,LE.den]at h⊢
  have h0:=h
  try simp only[IntKind.wrap_i64]at*
  intro a ha
  simp only[h0]
  try simp only[aC,fR,xh,XE,ae]at⊢
  grind)
theorem a3r:ab [([eql 201 (c 0)],leq (c 0) 201),
([eql 201 (c 0)],leq 201 (.nat 8)),
([eql 204 14,leq (c 0) 14],leq (c 0) 204),
([eql 204 14,leq 14 (c 1000000)],leq 204 (c 1000000)),
([eql 212 (wx (.add 201 (c 1))),lss 201 (.nat 8),leq 8 (c 64)],lss (.nat (.sub (.nat 8) 212)) (.nat (.sub (.nat 8) 201))),
([eql 215 209,eql 209 204,eql 204 14],eql 215 14),
([eql 212 (wx (.add 201 (c 1))),leq (c 0) 201,leq 201 (.nat 8),leq 8 (c 64)],leq (c 0) 212),
([eql 212 (wx (.add 201 (c 1))),leq (c 0) 201,lss 201 (.nat 8)],leq 212 (.nat 8)),
([eql 216 (wx (.add 201 (c 1))),lss 201 (.nat 8),leq 8 (c 64)],lss (.nat (.sub (.nat 8) 216)) (.nat (.sub (.nat 8) 201))),
([eql 219 209,eql 209 204,eql 204 14],eql 219 14),
([eql 216 (wx (.add 201 (c 1))),leq (c 0) 201,leq 201 (.nat 8),leq 8 (c 64)],leq (c 0) 216),
([eql 216 (wx (.add 201 (c 1))),leq (c 0) 201,lss 201 (.nat 8)],leq 216 (.nat 8)),
([eql 220 (wx (.add 201 (c 1))),lss 201 (.nat 8),leq 8 (c 64)],lss (.nat (.sub (.nat 8) 220)) (.nat (.sub (.nat 8) 201))),
([eql 223 204,eql 204 14],eql 223 14),
([eql 220 (wx (.add 201 (c 1))),leq (c 0) 201,lss 201 (.nat 8),leq 8 (c 64)],leq (c 0) 220),
([eql 220 (wx (.add 201 (c 1))),leq (c 0) 201,lss 201 (.nat 8)],leq 220 (.nat 8))]:=dS
theorem a3s:ab [([eql 212 (wx (.add 201 (c 1))),rx 0 [] [213,(ux (ux (ux 202 201 11 (c (-1))) 201 9 (c 3)) 201 12 (c 0))],rx 34 [8,201] [202,2],leq (c 0) 201,leq 201 (.nat 8),eql (gx 202 201 9) (c 2),fb (ix (ix (ix (.cmp .neq (gx 202 201 11) (c (-1))) (nx (.cmp .neq (gx 202 201 12) (c 0))) (.lit false)) (ix (ex (wx (.sub (wx (.mul (gx 202 201 11) (c 8))) (gx 202 201 0))) (c 0)) (ex (gx 202 201 1) (c 0)) (.lit false)) (.lit false)) (ex (gx 202 201 3) (gx 202 201 4)) (.lit false)),lss 201 (.nat 8),leq (c 0) 8,leq 8 (c 64),rx 16 [101,102,104,105,106,107,108,109,110,111,112,8,7,5,6] [],rx 12 [8,101,104,105,112,7,102,147,115] [2]],rx 34 [8,212] [213,2])]:=by
 repeat' (first|exact .nil|refine au ?_ ?_)
 all_goals(
  intro ρ;(intro h;simp only[vS,IE.den,BE.den,LE.den]at h⊢;revert h;(try simp only[and_imp]);intros)
  have hF:ρ.i 101≤32:=by(simp only[ac,aV]at*;omega)
  have hi:0≤ρ.i 201∧ρ.i 201<ρ.i 8:=by omega
  have hc:ρ.l 202 (ρ.i 201).toNat 11≠ -1∧ρ.l 202 (ρ.i 201).toNat 12=0∧IntKind.i64.wrap (IntKind.i64.wrap (ρ.l 202 (ρ.i 201).toNat 11*8)-ρ.l 202 (ρ.i 201).toNat 0)=0∧ρ.l 202 (ρ.i 201).toNat 1=0∧ρ.l 202 (ρ.i 201).toNat 3=ρ.l 202 (ρ.i 201).toNat 4:=by grind
  have hp:=Da (l:=ρ.l 202) (l0:=ρ.l 2) (i:=ρ.i 201) (by assumption) (by assumption) hF hi.1 hi.2 hc.2.2.1
  rw[show ρ.l 213=ah (ah (ah (ρ.l 202) (ρ.i 201) 11 (-1)) (ρ.i 201) 9 3) (ρ.i 201) 12 0 by assumption]
  exact PN (l0:=ρ.l 2) (i:=ρ.i 201) (by assumption) hi.1 hi.2 (by((try simp only[IntKind.wrap_i64,Int.ofNat_toNat]at*);omega)) hc.1 hc.2.1 hp hc.2.2.2.1 hc.2.2.2.2 (by assumption))
theorem a3t:ab [([eql 216 (wx (.add 201 (c 1))),rx 0 [] [217,(ux (ux 202 201 11 (c (-1))) 201 12 (c 0))],rx 34 [8,201] [202,2],leq (c 0) 201,leq 201 (.nat 8),fb (nx (ex (gx 202 201 9) (c 2))),fb (ix (ix (ix (.cmp .neq (gx 202 201 11) (c (-1))) (nx (.cmp .neq (gx 202 201 12) (c 0))) (.lit false)) (ix (ex (wx (.sub (wx (.mul (gx 202 201 11) (c 8))) (gx 202 201 0))) (c 0)) (ex (gx 202 201 1) (c 0)) (.lit false)) (.lit false)) (ex (gx 202 201 3) (gx 202 201 4)) (.lit false)),lss 201 (.nat 8),leq (c 0) 8,leq 8 (c 64),rx 16 [101,102,104,105,106,107,108,109,110,111,112,8,7,5,6] [],rx 12 [8,101,104,105,112,7,102,147,115] [2]],rx 34 [8,216] [217,2])]:=by
 repeat' (first|exact .nil|refine au ?_ ?_)
 all_goals(
  intro ρ;(intro h;simp only[vS,IE.den,BE.den,LE.den]at h⊢;revert h;(try simp only[and_imp]);intros)
  have hF:ρ.i 101≤32:=by(simp only[ac,aV]at*;omega)
  have hi:0≤ρ.i 201∧ρ.i 201<ρ.i 8:=by omega
  have hc:ρ.l 202 (ρ.i 201).toNat 11≠ -1∧ρ.l 202 (ρ.i 201).toNat 12=0∧IntKind.i64.wrap (IntKind.i64.wrap (ρ.l 202 (ρ.i 201).toNat 11*8)-ρ.l 202 (ρ.i 201).toNat 0)=0∧ρ.l 202 (ρ.i 201).toNat 1=0∧ρ.l 202 (ρ.i 201).toNat 3=ρ.l 202 (ρ.i 201).toNat 4:=by grind
  have hp:=Da (l:=ρ.l 202) (l0:=ρ.l 2) (i:=ρ.i 201) (by assumption) (by assumption) hF hi.1 hi.2 hc.2.2.1
  rw[show ρ.l 217=ah (ah (ρ.l 202) (ρ.i 201) 11 (-1)) (ρ.i 201) 12 0 by assumption]
  exact PM (l0:=ρ.l 2) (i:=ρ.i 201) (by assumption) hi.1 hi.2 (by((try simp only[IntKind.wrap_i64,Int.ofNat_toNat]at*);omega)) hc.1 hc.2.1 hp hc.2.2.2.1 hc.2.2.2.2 (by assumption))
theorem a3u:ab [([eql 220 (wx (.add 201 (c 1))),rx 0 [] [221,(ux 202 201 12 (c 0))],rx 34 [8,201] [202,2],leq (c 0) 201,lss 201 (.nat 8),leq 8 (c 64)],rx 34 [8,220] [221,2])]:=by
 repeat' (first|exact .nil|refine au ?_ ?_)
 all_goals(
  intro ρ h;simp only[vS,IE.den,BE.den,LE.den]at h⊢
  obtain⟨h0,h1,h2,h3,h4,h5⟩:=h
  try simp only[IntKind.wrap_i64]at*
  intro a ha
  first|have xa2:=h2 a ha|have xa2:=True.intro
  simp only[h1]
  by_cases e:a=(ρ.i 201).toNat
  ·simp only[aC,fR,xh,XE,ae,e,true_and,if_true,and_false,false_and,if_false,reduceIte,Nat.reduceEqDiff]at xa2⊢;grind
  ·simp only[aC,fR,xh,XE,ae,e,false_and,if_false]at xa2⊢;grind)
theorem a3v:ab [([rx 34 [8,201] [202,2]],rx 34 [8,8] [202,2])]:=by
 repeat' (first|exact .nil|refine au ?_ ?_)
 all_goals(
  intro ρ h;simp only[vS,IE.den,BE.den,LE.den]at h⊢
  have h0:=h
  try simp only[IntKind.wrap_i64]at*
  intro a ha
  first|have xa0:=h0 a ha|have xa0:=True.intro
  try simp only[aC,fR,xh,XE,ae]at xa0⊢
  grind)
theorem a3w:afa.ok Tryz.prog:=ao (.cons D0 .nil) Nq (a5t a3q (a5t a3r (a5t a3s (a5t a3t (a5t a3u a3v))))) [3,2,4,5,2,2,0,0,0,0,0,0,0,0,6,7,0,0,0,0,0,0,8,20,9,10,11,12,21,13,14,15,16,22,17,18,19,23,2] (by kernel_rfl)
theorem aju:ab [([eql 201 (c 0),rx 0 [] [202,2]],rx 43 [8,201] [202,2])]:=by
 repeat' (first|exact .nil|refine au ?_ ?_)
 all_goals(
  intro ρ h;simp only[vS,IE.den,BE.den,LE.den]at h⊢
  obtain⟨h0,h1⟩:=h
  try simp only[IntKind.wrap_i64]at*
  intro a ha
  simp only[h1]
  try simp only[aC,fR,xh,XE,ae]at⊢
  grind)
theorem ajv:ab [([eql 201 (c 0)],leq (c 0) 201),
([eql 201 (c 0)],leq 201 (.nat 8)),
([eql 203 (wx (.add 201 (c 1))),lss 201 (.nat 8),leq 8 (c 64)],lss (.nat (.sub (.nat 8) 203)) (.nat (.sub (.nat 8) 201))),
([eql 203 (wx (.add 201 (c 1))),leq (c 0) 201,lss 201 (.nat 8),leq 8 (c 64)],leq (c 0) 203),
([eql 203 (wx (.add 201 (c 1))),leq (c 0) 201,lss 201 (.nat 8)],leq 203 (.nat 8)),
([leq 5371 5210,leq 5210 (c 1000000)],leq 5371 (c 1000000)),
([eql 5215 14,leq (c 0) 14],leq (c 0) 5215),
([eql 5215 14,leq 14 (c 1000000)],leq 5215 (c 1000000)),
([eql 5496 5215,eql 5215 14,leq (c 0) 14],leq (c 0) 5496),
([eql 5496 5215,eql 5215 14,leq 14 (c 1000000)],leq 5496 (c 1000000)),
([leq (c 0) 14,eql 5646 5496,eql 5496 5215,eql 5215 14],leq (c 0) 5646),
([leq 14 (c 1000000),eql 5646 5496,eql 5496 5215,eql 5215 14],leq 5646 (c 1000000))]:=dS
theorem ajw:ab [([eql 203 (wx (.add 201 (c 1))),rx 0 [] [204,(ux 202 201 10 (gx 202 201 9))],rx 43 [8,201] [202,2],leq (c 0) 201,lss 201 (.nat 8),leq 8 (c 64)],rx 43 [8,203] [204,2])]:=by
 repeat' (first|exact .nil|refine au ?_ ?_)
 all_goals(
  intro ρ h;simp only[vS,IE.den,BE.den,LE.den]at h⊢
  obtain⟨h0,h1,h2,h3,h4,h5⟩:=h
  try simp only[IntKind.wrap_i64]at*
  intro a ha
  first|have xa2:=h2 a ha|have xa2:=True.intro
  simp only[h1]
  by_cases e:a=(ρ.i 201).toNat
  ·simp only[aC,fR,xh,XE,ae,e,true_and,if_true,and_false,false_and,if_false,reduceIte,Nat.reduceEqDiff]at xa2⊢;grind
  ·simp only[aC,fR,xh,XE,ae,e,false_and,if_false]at xa2⊢;grind)
theorem ajx:ab [([rx 43 [8,201] [202,2],rx 12 [8,101,104,105,112,7,102,147,115] [2]],rx 12 [8,101,104,105,112,7,102,147,115] [202])]:=by
 repeat' (first|exact .nil|refine au ?_ ?_)
 all_goals(
  intro ρ h;simp only[vS,IE.den,BE.den,LE.den]at h⊢
  obtain⟨h0,h1⟩:=h
  try simp only[IntKind.wrap_i64]at*
  refine⟨fun a ha=>?_,fun a b ha hb=>?_⟩
  ·first|have xa0:=h0 a ha|have xa0:=True.intro
   first|have xa1:=h1.1 a ha|have xa1:=True.intro
   try simp only[aC,fR,xh,XE,ae]at xa0 xa1⊢
   grind
  ·first|have z1:=h1.2 a b ha hb|have z1:=True.intro
   first|have xa0:=h0 a ha|have xa0:=True.intro
   first|have xa1:=h1.1 a ha|have xa1:=True.intro
   first|have xb0:=h0 b hb|have xb0:=True.intro
   first|have xb1:=h1.1 b hb|have xb1:=True.intro
   try simp only[aC,fR,xh,XE,ae]at z1 xa0 xa1 xb0 xb1⊢
   grind)
theorem ajy:ab [([rx 43 [8,201] [202,2],fb (nx (lx 201 (.nat 8))),rx 12 [8,101,104,105,112,7,102,147,115] [2]],rx 13 [8,147,115] [202])]:=by
 repeat' (first|exact .nil|refine au ?_ ?_)
 all_goals(
  intro ρ h;simp only[vS,IE.den,BE.den,LE.den]at h⊢
  obtain⟨h0,h1,h2⟩:=h
  try simp only[IntKind.wrap_i64]at*
  intro a ha
  first|have xa0:=h0 a ha|have xa0:=True.intro
  first|have xa2:=h2.1 a ha|have xa2:=True.intro
  try simp only[aC,fR,xh,XE,ae]at xa0 xa2⊢
  grind)
theorem ajz:ab [([rx 7 [5371,8] [5371],rx 30 [8,5371] [5304,5371],leq (c 0) 5371,leq 5371 5210,rx 12 [8,101,104,105,112,7,102,5349,115] [5304],rx 13 [8,5349,115] [5304],rx 14 [8] [5203,5304],.imp (ex 5350 (c 2)) (eql 115 (c 2)),.imp (ex 5350 (c 1)) (eql 115 (c 1)),.imp (ex 5349 (c 0)) (.imp (.cmp .neq 5248 (c 0)) (rx 6 [8] [5304])),.imp (ix 160 5229 (.lit false)) (fb (ix 5330 (ex 5331 (c 0)) (.lit false))),.imp (ix (ix (nx 160) 5229 (.lit false)) (ix (ex 5230 (c 0)) (ex 107 (c 2)) (.lit false)) (.lit false)) (fb (ix 5330 (ex 5331 (c 1)) (.lit false))),.imp (ix (ix (nx 160) 5229 (.lit false)) (ix (ex 5230 (c 1)) (ex 107 (c 2)) (.lit false)) (.lit false)) (fb (nx 5330)),.imp (ix (nx 160) (nx 5229) (.lit false)) (fb (nx 5330)),.imp (ix (ex 5248 (c 0)) 5330 (.lit false)) (eql 5349 (c 0)),.imp (ix (ex 5248 (c 0)) (nx 5330) (.lit false)) (eql 5349 (c 1)),.imp (ix (ex 5248 (c 0)) (nx 5330) (.lit false)) (rx 6 [8] [5304]),.imp (ix (ex 5248 (c 1)) (ex 115 (c 2)) (.lit false)) (eql 5349 (c 2)),.imp (ix (ix (ex 5248 (c 1)) (.cmp .neq 115 (c 2)) (.lit false)) (nx 5330) (.lit false)) (eql 5349 (c 1)),.imp (ix (ex 5248 (c 2)) (nx 5330) (.lit false)) (eql 5349 (c 2)),rx 12 [8,101,104,105,112,7,102,5248,115] [5203],rx 13 [8,5248,115] [5203],rx 14 [8] [202,5203],rx 18 [7] [5204],rx 7 [5210,8] [5210],leq (c 0) 5210,leq 5210 (c 1000000),.imp (ex 5248 (c 0)) (eql 5210 (c 0)),rx 45 [16,8] [5203,202],.imp (ex 16 (c 0)) (fb (ix (ex 5248 147) (ix (.eqb 5229 128) (ex 5230 129) (.lit false)) (.lit false))),rx 43 [8,201] [202,2],leq (c 0) 201,leq 201 (.nat 8),fb (nx (lx 201 (.nat 8))),leq (c 0) 8,leq 8 (c 64),rx 16 [101,102,104,105,106,107,108,109,110,111,112,8,7,5,6] [],rx 12 [8,101,104,105,112,7,102,147,115] [2],rx 18 [7] [3],rx 7 [9,8] [9],leq (c 0) 9,leq 9 (c 1000000),.imp (ex 147 (c 0)) (eql 9 (c 0)),leq (c 0) 115,leq 115 (c 2),leq (c 0) 16,leq 16 (c 1000000)],.imp (ex 5349 (c 0)) (eql 5371 (c 0)))]:=by
 repeat' (first|exact .nil|refine au ?_ ?_)
 all_goals(
  intro ρ;(intro h;simp only[vS,IE.den,BE.den,LE.den]at h⊢;revert h;(try simp only[and_imp]);intros)
  by_cases h0:ρ.i 5248=0
  ·have:=(by assumption:ρ.i 5248=0→_) h0
   omega
  ·exact vx (l:=ρ.l 5304) (p:=ρ.l 5371) (n:=ρ.i 8) (by assumption) (by assumption) ((by assumption:ρ.i 5349=0→ρ.i 5248≠0→ac 3 [ρ.i 8] [ρ.l 5304]) (by assumption) h0))
theorem ak0:ab [([rx 7 [5491,8] [5491]],leq (c 0) 5491),
([rx 7 [5491,8] [5491],rx 16 [101,102,104,105,106,107,108,109,110,111,112,8,7,5,6] []],leq 5491 (c 1000000)),
([rx 7 [5701,8] [5701],rx 16 [101,102,104,105,106,107,108,109,110,111,112,8,7,5,6] []],leq 5701 (c 64)),
([rx 16 [101,102,104,105,106,107,108,109,110,111,112,8,7,5,6] [],rx 7 [5701,8] [5701]],leq 5701 (c 1000000))]:=lm
theorem ak1:ab [([rx 7 [5701,8] [5701],rx 30 [8,5701] [5634,5701],leq (c 0) 5701,leq 5701 5491,rx 34 [8,8] [5634,5534],rx 12 [8,101,104,105,112,7,102,5349,115] [5534],rx 33 [8,8,104,111,5350] [5534,5484],rx 12 [8,101,104,105,112,7,102,5349,115] [5484],rx 13 [8,5349,115] [5484],rx 14 [8] [5424,5484],rx 18 [7] [5485],rx 7 [5491,8] [5491],.imp (nx (ex 5349 (c 2))) (eql 5491 5431),.imp (ex 5349 (c 1)) (rx 28 [8] [5484,5424]),rx 12 [8,101,104,105,112,7,102,5349,115] [5424],rx 13 [8,5349,115] [5424],rx 14 [8] [5304,5424],rx 7 [5431,8] [5431],rx 31 [8] [5424,5304],leq (c 0) 5431,leq 5431 5371,.imp (.cmp .neq 5350 (c 2)) (eql 5431 (c 0)),rx 7 [5371,8] [5371],rx 30 [8,5371] [5304,5371],leq (c 0) 5371,leq 5371 5210,rx 12 [8,101,104,105,112,7,102,5349,115] [5304],rx 13 [8,5349,115] [5304],rx 14 [8] [5203,5304],.imp (ex 5350 (c 2)) (eql 115 (c 2)),.imp (ex 5350 (c 1)) (eql 115 (c 1)),.imp (ex 5349 (c 0)) (.imp (.cmp .neq 5248 (c 0)) (rx 6 [8] [5304])),.imp (ix 160 5229 (.lit false)) (fb (ix 5330 (ex 5331 (c 0)) (.lit false))),.imp (ix (ix (nx 160) 5229 (.lit false)) (ix (ex 5230 (c 0)) (ex 107 (c 2)) (.lit false)) (.lit false)) (fb (ix 5330 (ex 5331 (c 1)) (.lit false))),.imp (ix (ix (nx 160) 5229 (.lit false)) (ix (ex 5230 (c 1)) (ex 107 (c 2)) (.lit false)) (.lit false)) (fb (nx 5330)),.imp (ix (nx 160) (nx 5229) (.lit false)) (fb (nx 5330)),.imp (ix (ex 5248 (c 0)) 5330 (.lit false)) (eql 5349 (c 0)),.imp (ix (ex 5248 (c 0)) (nx 5330) (.lit false)) (eql 5349 (c 1)),.imp (ix (ex 5248 (c 0)) (nx 5330) (.lit false)) (rx 6 [8] [5304]),.imp (ix (ex 5248 (c 1)) (ex 115 (c 2)) (.lit false)) (eql 5349 (c 2)),.imp (ix (ix (ex 5248 (c 1)) (.cmp .neq 115 (c 2)) (.lit false)) (nx 5330) (.lit false)) (eql 5349 (c 1)),.imp (ix (ex 5248 (c 2)) (nx 5330) (.lit false)) (eql 5349 (c 2)),rx 12 [8,101,104,105,112,7,102,5248,115] [5203],rx 13 [8,5248,115] [5203],rx 14 [8] [202,5203],rx 18 [7] [5204],rx 7 [5210,8] [5210],leq (c 0) 5210,leq 5210 (c 1000000),.imp (ex 5248 (c 0)) (eql 5210 (c 0)),rx 45 [16,8] [5203,202],.imp (ex 16 (c 0)) (fb (ix (ex 5248 147) (ix (.eqb 5229 128) (ex 5230 129) (.lit false)) (.lit false))),rx 43 [8,201] [202,2],leq (c 0) 201,leq 201 (.nat 8),fb (nx (lx 201 (.nat 8))),leq (c 0) 8,leq 8 (c 64),rx 16 [101,102,104,105,106,107,108,109,110,111,112,8,7,5,6] [],rx 12 [8,101,104,105,112,7,102,147,115] [2],rx 18 [7] [3],rx 7 [9,8] [9],leq (c 0) 9,leq 9 (c 1000000),.imp (ex 147 (c 0)) (eql 9 (c 0)),leq (c 0) 115,leq 115 (c 2),leq (c 0) 16,leq 16 (c 1000000)],rx 12 [8,101,104,105,112,7,102,5349,115] [5634])]:=by
 repeat' (first|exact .nil|refine au ?_ ?_)
 all_goals(
  intro ρ;(intro h;simp only[vS,IE.den,BE.den,LE.den]at h⊢;revert h;(try simp only[and_imp]);intros)
  exact vw (l0:=ρ.l 5534) (by assumption) (by assumption))
theorem ak2:ab [([leq (c 0) 8,leq 8 (c 64),rx 16 [101,102,104,105,106,107,108,109,110,111,112,8,7,5,6] [],rx 12 [8,101,104,105,112,7,102,147,115] [2],rx 18 [7] [3],rx 7 [9,8] [9],leq (c 0) 9,leq 9 (c 1000000),.imp (ex 147 (c 0)) (eql 9 (c 0)),leq (c 0) 115,leq 115 (c 2),leq (c 0) 16,leq 16 (c 1000000),leq (c 0) 5827,leq 5827 (c 2),.imp (ix (.cmp .neq 5827 115) (.cmp .neq 115 (c 0)) (.lit false)) (rx 6 [8] [5634]),.imp (ix (ex 115 (c 1)) 5330 (.lit false)) (eql 5827 (c 1)),.imp (ix (ex 115 (c 2)) (ix (nx 5330) 161 (.lit false)) (.lit false)) (eql 5827 (c 2)),.imp (ix (ex 115 (c 0)) (ix (ex 116 (c 2)) (ex 117 (c 1)) (.lit false)) (.lit false)) (eql 5827 (c 2)),.imp (ix (ix (ex 115 (c 1)) (ex 108 (c 1)) (.lit false)) (ix (nx 5330) 161 (.lit false)) (.lit false)) (.imp (.cmp .neq 5827 (c 0)) (rx 29 [8] [5634])),.imp (ix (ix (ex 115 (c 1)) (ex 108 (c 1)) (.lit false)) (ix (nx 5330) 161 (.lit false)) (.lit false)) (.imp (ex 5827 (c 0)) (fb (ix (ex 5828 (c 2)) (ex 5829 (c 1)) (.lit false)))),rx 7 [5701,8] [5701],rx 30 [8,5701] [5634,5701],leq (c 0) 5701,leq 5701 5491,rx 34 [8,8] [5634,5534],rx 12 [8,101,104,105,112,7,102,5349,115] [5534],rx 33 [8,8,104,111,5350] [5534,5484],rx 12 [8,101,104,105,112,7,102,5349,115] [5484],rx 13 [8,5349,115] [5484],rx 14 [8] [5424,5484],rx 18 [7] [5485],rx 7 [5491,8] [5491],.imp (nx (ex 5349 (c 2))) (eql 5491 5431),.imp (ex 5349 (c 1)) (rx 28 [8] [5484,5424]),rx 12 [8,101,104,105,112,7,102,5349,115] [5424],rx 13 [8,5349,115] [5424],rx 14 [8] [5304,5424],rx 7 [5431,8] [5431],rx 31 [8] [5424,5304],leq (c 0) 5431,leq 5431 5371,.imp (.cmp .neq 5350 (c 2)) (eql 5431 (c 0)),rx 7 [5371,8] [5371],rx 30 [8,5371] [5304,5371],leq (c 0) 5371,leq 5371 5210,rx 12 [8,101,104,105,112,7,102,5349,115] [5304],rx 13 [8,5349,115] [5304],rx 14 [8] [5203,5304],.imp (ex 5350 (c 2)) (eql 115 (c 2)),.imp (ex 5350 (c 1)) (eql 115 (c 1)),.imp (ex 5349 (c 0)) (.imp (.cmp .neq 5248 (c 0)) (rx 6 [8] [5304])),.imp (ix 160 5229 (.lit false)) (fb (ix 5330 (ex 5331 (c 0)) (.lit false))),.imp (ix (ix (nx 160) 5229 (.lit false)) (ix (ex 5230 (c 0)) (ex 107 (c 2)) (.lit false)) (.lit false)) (fb (ix 5330 (ex 5331 (c 1)) (.lit false))),.imp (ix (ix (nx 160) 5229 (.lit false)) (ix (ex 5230 (c 1)) (ex 107 (c 2)) (.lit false)) (.lit false)) (fb (nx 5330)),.imp (ix (nx 160) (nx 5229) (.lit false)) (fb (nx 5330)),.imp (ix (ex 5248 (c 0)) 5330 (.lit false)) (eql 5349 (c 0)),.imp (ix (ex 5248 (c 0)) (nx 5330) (.lit false)) (eql 5349 (c 1)),.imp (ix (ex 5248 (c 0)) (nx 5330) (.lit false)) (rx 6 [8] [5304]),.imp (ix (ex 5248 (c 1)) (ex 115 (c 2)) (.lit false)) (eql 5349 (c 2)),.imp (ix (ix (ex 5248 (c 1)) (.cmp .neq 115 (c 2)) (.lit false)) (nx 5330) (.lit false)) (eql 5349 (c 1)),.imp (ix (ex 5248 (c 2)) (nx 5330) (.lit false)) (eql 5349 (c 2)),rx 12 [8,101,104,105,112,7,102,5248,115] [5203],rx 13 [8,5248,115] [5203],rx 14 [8] [202,5203],rx 18 [7] [5204],rx 7 [5210,8] [5210],leq (c 0) 5210,leq 5210 (c 1000000),.imp (ex 5248 (c 0)) (eql 5210 (c 0)),rx 45 [16,8] [5203,202],.imp (ex 16 (c 0)) (fb (ix (ex 5248 147) (ix (.eqb 5229 128) (ex 5230 129) (.lit false)) (.lit false))),rx 43 [8,201] [202,2],leq (c 0) 201,leq 201 (.nat 8),fb (nx (lx 201 (.nat 8)))],rx 12 [8,101,104,105,112,7,102,5349,5827] [5634])]:=by
 repeat' (first|exact .nil|refine au ?_ ?_)
 all_goals(
  intro ρ;(intro h;simp only[vS,IE.den,BE.den,LE.den]at h⊢;revert h;(try simp only[and_imp]);intros)
  have hh:0≤ρ.i 102:=by(simp only[ac,aV]at*;omega)
  exact Z7 (at_:=ρ.i 115) (vw (l0:=ρ.l 5534) (by assumption) (by assumption)) hh (fun h1 h2=>(by assumption:(ρ.i 5827≠ρ.i 115∧ρ.i 115≠0∨¬ρ.i 5827≠ρ.i 115∧False)→ac 3 [ρ.i 8] [ρ.l 5634]) (.inl ⟨h1,h2⟩)))
theorem ak3:ab [([leq (c 0) 8,leq 8 (c 64),rx 16 [101,102,104,105,106,107,108,109,110,111,112,8,7,5,6] [],rx 12 [8,101,104,105,112,7,102,147,115] [2],rx 18 [7] [3],rx 7 [9,8] [9],leq (c 0) 9,leq 9 (c 1000000),.imp (ex 147 (c 0)) (eql 9 (c 0)),leq (c 0) 115,leq 115 (c 2),leq (c 0) 16,leq 16 (c 1000000),leq (c 0) 5827,leq 5827 (c 2),.imp (ix (.cmp .neq 5827 115) (.cmp .neq 115 (c 0)) (.lit false)) (rx 6 [8] [5634]),.imp (ix (ex 115 (c 1)) 5330 (.lit false)) (eql 5827 (c 1)),.imp (ix (ex 115 (c 2)) (ix (nx 5330) 161 (.lit false)) (.lit false)) (eql 5827 (c 2)),.imp (ix (ex 115 (c 0)) (ix (ex 116 (c 2)) (ex 117 (c 1)) (.lit false)) (.lit false)) (eql 5827 (c 2)),.imp (ix (ix (ex 115 (c 1)) (ex 108 (c 1)) (.lit false)) (ix (nx 5330) 161 (.lit false)) (.lit false)) (.imp (.cmp .neq 5827 (c 0)) (rx 29 [8] [5634])),.imp (ix (ix (ex 115 (c 1)) (ex 108 (c 1)) (.lit false)) (ix (nx 5330) 161 (.lit false)) (.lit false)) (.imp (ex 5827 (c 0)) (fb (ix (ex 5828 (c 2)) (ex 5829 (c 1)) (.lit false)))),rx 7 [5701,8] [5701],rx 30 [8,5701] [5634,5701],leq (c 0) 5701,leq 5701 5491,rx 34 [8,8] [5634,5534],rx 12 [8,101,104,105,112,7,102,5349,115] [5534],rx 33 [8,8,104,111,5350] [5534,5484],rx 12 [8,101,104,105,112,7,102,5349,115] [5484],rx 13 [8,5349,115] [5484],rx 14 [8] [5424,5484],rx 18 [7] [5485],rx 7 [5491,8] [5491],.imp (nx (ex 5349 (c 2))) (eql 5491 5431),.imp (ex 5349 (c 1)) (rx 28 [8] [5484,5424]),rx 12 [8,101,104,105,112,7,102,5349,115] [5424],rx 13 [8,5349,115] [5424],rx 14 [8] [5304,5424],rx 7 [5431,8] [5431],rx 31 [8] [5424,5304],leq (c 0) 5431,leq 5431 5371,.imp (.cmp .neq 5350 (c 2)) (eql 5431 (c 0)),rx 7 [5371,8] [5371],rx 30 [8,5371] [5304,5371],leq (c 0) 5371,leq 5371 5210,rx 12 [8,101,104,105,112,7,102,5349,115] [5304],rx 13 [8,5349,115] [5304],rx 14 [8] [5203,5304],.imp (ex 5350 (c 2)) (eql 115 (c 2)),.imp (ex 5350 (c 1)) (eql 115 (c 1)),.imp (ex 5349 (c 0)) (.imp (.cmp .neq 5248 (c 0)) (rx 6 [8] [5304])),.imp (ix 160 5229 (.lit false)) (fb (ix 5330 (ex 5331 (c 0)) (.lit false))),.imp (ix (ix (nx 160) 5229 (.lit false)) (ix (ex 5230 (c 0)) (ex 107 (c 2)) (.lit false)) (.lit false)) (fb (ix 5330 (ex 5331 (c 1)) (.lit false))),.imp (ix (ix (nx 160) 5229 (.lit false)) (ix (ex 5230 (c 1)) (ex 107 (c 2)) (.lit false)) (.lit false)) (fb (nx 5330)),.imp (ix (nx 160) (nx 5229) (.lit false)) (fb (nx 5330)),.imp (ix (ex 5248 (c 0)) 5330 (.lit false)) (eql 5349 (c 0)),.imp (ix (ex 5248 (c 0)) (nx 5330) (.lit false)) (eql 5349 (c 1)),.imp (ix (ex 5248 (c 0)) (nx 5330) (.lit false)) (rx 6 [8] [5304]),.imp (ix (ex 5248 (c 1)) (ex 115 (c 2)) (.lit false)) (eql 5349 (c 2)),.imp (ix (ix (ex 5248 (c 1)) (.cmp .neq 115 (c 2)) (.lit false)) (nx 5330) (.lit false)) (eql 5349 (c 1)),.imp (ix (ex 5248 (c 2)) (nx 5330) (.lit false)) (eql 5349 (c 2)),rx 12 [8,101,104,105,112,7,102,5248,115] [5203],rx 13 [8,5248,115] [5203],rx 14 [8] [202,5203],rx 18 [7] [5204],rx 7 [5210,8] [5210],leq (c 0) 5210,leq 5210 (c 1000000),.imp (ex 5248 (c 0)) (eql 5210 (c 0)),rx 45 [16,8] [5203,202],.imp (ex 16 (c 0)) (fb (ix (ex 5248 147) (ix (.eqb 5229 128) (ex 5230 129) (.lit false)) (.lit false))),rx 43 [8,201] [202,2],leq (c 0) 201,leq 201 (.nat 8),fb (nx (lx 201 (.nat 8)))],.imp (ex 5349 (c 0)) (eql 5701 (c 0)))]:=by
 repeat' (first|exact .nil|refine au ?_ ?_)
 all_goals(
  intro ρ;(intro h;simp only[vS,IE.den,BE.den,LE.den]at h⊢;revert h;(try simp only[and_imp]);intros)
  have hx:ρ.i 5371=0:=by
   by_cases h0:ρ.i 5248=0
   ·have:=(by assumption:ρ.i 5248=0→_) h0
    omega
   ·exact vx (l:=ρ.l 5304) (p:=ρ.l 5371) (n:=ρ.i 8) (by assumption) (by assumption) ((by assumption:ρ.i 5349=0→ρ.i 5248≠0→ac 3 [ρ.i 8] [ρ.l 5304]) (by assumption) h0)
  have h1:=(by assumption:¬ρ.i 5349=2→ρ.i 5491=ρ.i 5431) (by omega)
  omega)
theorem lw:ab [([rx 34 [8,8] [5634,5534],rx 33 [8,8,104,111,5350] [5534,5484],rx 14 [8] [5424,5484],rx 14 [8] [5304,5424],rx 14 [8] [5203,5304],rx 14 [8] [202,5203],rx 43 [8,201] [202,2],fb (nx (lx 201 (.nat 8)))],rx 36 [8,104,111,5350] [5634,2])]:=by
 repeat' (first|exact .nil|refine au ?_ ?_)
 all_goals(
  intro ρ h;simp only[vS,IE.den,BE.den,LE.den]at h⊢
  obtain⟨h0,h1,h2,h3,h4,h5,h6,h7⟩:=h
  try simp only[IntKind.wrap_i64]at*
  intro a ha
  first|have xa0:=h0 a ha|have xa0:=True.intro
  first|have xa1:=h1 a ha|have xa1:=True.intro
  first|have xa2:=h2 a ha|have xa2:=True.intro
  first|have xa3:=h3 a ha|have xa3:=True.intro
  first|have xa4:=h4 a ha|have xa4:=True.intro
  first|have xa5:=h5 a ha|have xa5:=True.intro
  first|have xa6:=h6 a ha|have xa6:=True.intro
  try simp only[aC,fR,xh,XE,ae]at xa0 xa1 xa2 xa3 xa4 xa5 xa6⊢
  grind)
theorem t5:ab [([leq (c 0) 8,leq 8 (c 64),rx 16 [101,102,104,105,106,107,108,109,110,111,112,8,7,5,6] [],rx 12 [8,101,104,105,112,7,102,147,115] [2],rx 18 [7] [3],rx 7 [9,8] [9],leq (c 0) 9,leq 9 (c 1000000),.imp (ex 147 (c 0)) (eql 9 (c 0)),leq (c 0) 115,leq 115 (c 2),leq (c 0) 16,leq 16 (c 1000000),leq (c 0) 5827,leq 5827 (c 2),.imp (ix (.cmp .neq 5827 115) (.cmp .neq 115 (c 0)) (.lit false)) (rx 6 [8] [5634]),.imp (ix (ex 115 (c 1)) 5330 (.lit false)) (eql 5827 (c 1)),.imp (ix (ex 115 (c 2)) (ix (nx 5330) 161 (.lit false)) (.lit false)) (eql 5827 (c 2)),.imp (ix (ex 115 (c 0)) (ix (ex 116 (c 2)) (ex 117 (c 1)) (.lit false)) (.lit false)) (eql 5827 (c 2)),.imp (ix (ix (ex 115 (c 1)) (ex 108 (c 1)) (.lit false)) (ix (nx 5330) 161 (.lit false)) (.lit false)) (.imp (.cmp .neq 5827 (c 0)) (rx 29 [8] [5634])),.imp (ix (ix (ex 115 (c 1)) (ex 108 (c 1)) (.lit false)) (ix (nx 5330) 161 (.lit false)) (.lit false)) (.imp (ex 5827 (c 0)) (fb (ix (ex 5828 (c 2)) (ex 5829 (c 1)) (.lit false)))),rx 7 [5701,8] [5701],rx 30 [8,5701] [5634,5701],leq (c 0) 5701,leq 5701 5491,rx 34 [8,8] [5634,5534],rx 12 [8,101,104,105,112,7,102,5349,115] [5534],rx 33 [8,8,104,111,5350] [5534,5484],rx 12 [8,101,104,105,112,7,102,5349,115] [5484],rx 13 [8,5349,115] [5484],rx 14 [8] [5424,5484],rx 18 [7] [5485],rx 7 [5491,8] [5491],.imp (nx (ex 5349 (c 2))) (eql 5491 5431),.imp (ex 5349 (c 1)) (rx 28 [8] [5484,5424]),rx 12 [8,101,104,105,112,7,102,5349,115] [5424],rx 13 [8,5349,115] [5424],rx 14 [8] [5304,5424],rx 7 [5431,8] [5431],rx 31 [8] [5424,5304],leq (c 0) 5431,leq 5431 5371,.imp (.cmp .neq 5350 (c 2)) (eql 5431 (c 0)),rx 7 [5371,8] [5371],rx 30 [8,5371] [5304,5371],leq (c 0) 5371,leq 5371 5210,rx 12 [8,101,104,105,112,7,102,5349,115] [5304],rx 13 [8,5349,115] [5304],rx 14 [8] [5203,5304],.imp (ex 5350 (c 2)) (eql 115 (c 2)),.imp (ex 5350 (c 1)) (eql 115 (c 1)),.imp (ex 5349 (c 0)) (.imp (.cmp .neq 5248 (c 0)) (rx 6 [8] [5304])),.imp (ix 160 5229 (.lit false)) (fb (ix 5330 (ex 5331 (c 0)) (.lit false))),.imp (ix (ix (nx 160) 5229 (.lit false)) (ix (ex 5230 (c 0)) (ex 107 (c 2)) (.lit false)) (.lit false)) (fb (ix 5330 (ex 5331 (c 1)) (.lit false))),.imp (ix (ix (nx 160) 5229 (.lit false)) (ix (ex 5230 (c 1)) (ex 107 (c 2)) (.lit false)) (.lit false)) (fb (nx 5330)),.imp (ix (nx 160) (nx 5229) (.lit false)) (fb (nx 5330)),.imp (ix (ex 5248 (c 0)) 5330 (.lit false)) (eql 5349 (c 0)),.imp (ix (ex 5248 (c 0)) (nx 5330) (.lit false)) (eql 5349 (c 1)),.imp (ix (ex 5248 (c 0)) (nx 5330) (.lit false)) (rx 6 [8] [5304]),.imp (ix (ex 5248 (c 1)) (ex 115 (c 2)) (.lit false)) (eql 5349 (c 2)),.imp (ix (ix (ex 5248 (c 1)) (.cmp .neq 115 (c 2)) (.lit false)) (nx 5330) (.lit false)) (eql 5349 (c 1)),.imp (ix (ex 5248 (c 2)) (nx 5330) (.lit false)) (eql 5349 (c 2)),rx 12 [8,101,104,105,112,7,102,5248,115] [5203],rx 13 [8,5248,115] [5203],rx 14 [8] [202,5203],rx 18 [7] [5204],rx 7 [5210,8] [5210],leq (c 0) 5210,leq 5210 (c 1000000),.imp (ex 5248 (c 0)) (eql 5210 (c 0)),rx 45 [16,8] [5203,202],.imp (ex 16 (c 0)) (fb (ix (ex 5248 147) (ix (.eqb 5229 128) (ex 5230 129) (.lit false)) (.lit false))),rx 43 [8,201] [202,2],leq (c 0) 201,leq 201 (.nat 8),fb (nx (lx 201 (.nat 8)))],rx 35 [8,102,105] [5634])]:=by
 repeat' (first|exact .nil|refine au ?_ ?_)
 all_goals(
  intro ρ;(intro h;simp only[vS,IE.den,BE.den,LE.den]at h⊢;revert h;(try simp only[and_imp]);intros)
  exact I2 (l0:=ρ.l 5534) (F:=ρ.i 101) (S:=ρ.i 104) (Fu:=ρ.i 112) (nb:=ρ.i 7) (mode:=ρ.i 5349) (at_:=ρ.i 115) (by assumption) (by assumption) (I1 (l0:=ρ.l 5484) (S:=ρ.i 104) (cost:=ρ.i 111) (power:=ρ.i 5350) (by assumption) (by assumption)))
theorem t6:ab [([leq (c 0) 5827,leq 5827 (c 2),.imp (ix (.cmp .neq 5827 115) (.cmp .neq 115 (c 0)) (.lit false)) (rx 6 [8] [5634])],.imp (ix (.cmp .neq 115 (c 0)) (.cmp .neq 5827 115) (.lit false)) (rx 6 [8] [5634]))]:=by
 repeat' (first|exact .nil|refine au ?_ ?_)
 all_goals(
  intro ρ h;simp only[vS,IE.den,BE.den,LE.den]at h⊢
  obtain⟨h0,h1,h2⟩:=h
  try simp only[IntKind.wrap_i64]at*
  intro hc
  intro a ha
  first|have xa2:=fun h1=>(h2 h1) a ha|have xa2:=True.intro
  try simp only[aC,fR,xh,XE,ae]at xa2⊢
  grind)
theorem t7:ab [([.imp (ix (ex 115 (c 1)) 5330 (.lit false)) (eql 5827 (c 1)),.imp (ix 160 5229 (.lit false)) (fb (ix 5330 (ex 5331 (c 0)) (.lit false))),.imp (ix (ex 5248 (c 0)) 5330 (.lit false)) (eql 5349 (c 0)),.imp (ex 16 (c 0)) (fb (ix (ex 5248 147) (ix (.eqb 5229 128) (ex 5230 129) (.lit false)) (.lit false)))],.imp (ix (ex 16 (c 0)) (ix (ex 147 (c 0)) (ix 128 (ix (ex 115 (c 1)) 160 (.lit false)) (.lit false)) (.lit false)) (.lit false)) (fb (ix (ex 5349 (c 0)) (ix 5330 (ix (ex 5331 (c 0)) (ex 5827 (c 1)) (.lit false)) (.lit false)) (.lit false)))),
([.imp (ix (ex 115 (c 1)) 5330 (.lit false)) (eql 5827 (c 1)),.imp (ix (ix (nx 160) 5229 (.lit false)) (ix (ex 5230 (c 0)) (ex 107 (c 2)) (.lit false)) (.lit false)) (fb (ix 5330 (ex 5331 (c 1)) (.lit false))),.imp (ix (ex 5248 (c 0)) 5330 (.lit false)) (eql 5349 (c 0)),.imp (ex 16 (c 0)) (fb (ix (ex 5248 147) (ix (.eqb 5229 128) (ex 5230 129) (.lit false)) (.lit false)))],.imp (ix (ex 16 (c 0)) (ix (ex 147 (c 0)) (ix 128 (ix (ex 115 (c 1)) (ix (nx 160) (ix (ex 129 (c 0)) (ex 107 (c 2)) (.lit false)) (.lit false)) (.lit false)) (.lit false)) (.lit false)) (.lit false)) (fb (ix (ex 5349 (c 0)) (ix 5330 (ix (ex 5331 (c 1)) (ex 5827 (c 1)) (.lit false)) (.lit false)) (.lit false)))),
([.imp (ix (ex 115 (c 0)) (ix (ex 116 (c 2)) (ex 117 (c 1)) (.lit false)) (.lit false)) (eql 5827 (c 2)),.imp (ix (nx 160) (nx 5229) (.lit false)) (fb (nx 5330)),.imp (ix (ix (ex 5248 (c 1)) (.cmp .neq 115 (c 2)) (.lit false)) (nx 5330) (.lit false)) (eql 5349 (c 1)),.imp (ex 16 (c 0)) (fb (ix (ex 5248 147) (ix (.eqb 5229 128) (ex 5230 129) (.lit false)) (.lit false)))],.imp (ix (ex 16 (c 0)) (ix (ex 147 (c 1)) (ix (nx 128) (ix (nx 160) (ix 161 (ix (ex 115 (c 0)) (ix (ex 116 (c 2)) (ex 117 (c 1)) (.lit false)) (.lit false)) (.lit false)) (.lit false)) (.lit false)) (.lit false)) (.lit false)) (fb (ix (ex 5349 (c 1)) (ix (nx 5330) (ex 5827 (c 2)) (.lit false)) (.lit false)))),
([.imp (ix (ex 115 (c 2)) (ix (nx 5330) 161 (.lit false)) (.lit false)) (eql 5827 (c 2)),.imp (ix (nx 160) (nx 5229) (.lit false)) (fb (nx 5330)),.imp (ix (ex 5248 (c 1)) (ex 115 (c 2)) (.lit false)) (eql 5349 (c 2)),.imp (ex 16 (c 0)) (fb (ix (ex 5248 147) (ix (.eqb 5229 128) (ex 5230 129) (.lit false)) (.lit false)))],.imp (ix (ex 16 (c 0)) (ix (ex 147 (c 1)) (ix (nx 128) (ix (nx 160) (ix 161 (ex 115 (c 2)) (.lit false)) (.lit false)) (.lit false)) (.lit false)) (.lit false)) (fb (ix (ex 5349 (c 2)) (ix (nx 5330) (ex 5827 (c 2)) (.lit false)) (.lit false)))),
([.imp (ix (ex 115 (c 2)) (ix (nx 5330) 161 (.lit false)) (.lit false)) (eql 5827 (c 2)),.imp (ix (nx 160) (nx 5229) (.lit false)) (fb (nx 5330)),.imp (ix (ex 5248 (c 2)) (nx 5330) (.lit false)) (eql 5349 (c 2)),.imp (ex 16 (c 0)) (fb (ix (ex 5248 147) (ix (.eqb 5229 128) (ex 5230 129) (.lit false)) (.lit false)))],.imp (ix (ex 16 (c 0)) (ix (ex 147 (c 2)) (ix (nx 128) (ix (nx 160) (ix 161 (ex 115 (c 2)) (.lit false)) (.lit false)) (.lit false)) (.lit false)) (.lit false)) (fb (ix (ex 5349 (c 2)) (ix (nx 5330) (ex 5827 (c 2)) (.lit false)) (.lit false))))]:=kj
theorem t8:ab [([leq (c 0) 8,leq 8 (c 64),rx 16 [101,102,104,105,106,107,108,109,110,111,112,8,7,5,6] [],rx 12 [8,101,104,105,112,7,102,147,115] [2],rx 18 [7] [3],rx 7 [9,8] [9],leq (c 0) 9,leq 9 (c 1000000),.imp (ex 147 (c 0)) (eql 9 (c 0)),leq (c 0) 115,leq 115 (c 2),leq (c 0) 16,leq 16 (c 1000000),leq (c 0) 5827,leq 5827 (c 2),.imp (ix (.cmp .neq 5827 115) (.cmp .neq 115 (c 0)) (.lit false)) (rx 6 [8] [5634]),.imp (ix (ex 115 (c 1)) 5330 (.lit false)) (eql 5827 (c 1)),.imp (ix (ex 115 (c 2)) (ix (nx 5330) 161 (.lit false)) (.lit false)) (eql 5827 (c 2)),.imp (ix (ex 115 (c 0)) (ix (ex 116 (c 2)) (ex 117 (c 1)) (.lit false)) (.lit false)) (eql 5827 (c 2)),.imp (ix (ix (ex 115 (c 1)) (ex 108 (c 1)) (.lit false)) (ix (nx 5330) 161 (.lit false)) (.lit false)) (.imp (.cmp .neq 5827 (c 0)) (rx 29 [8] [5634])),.imp (ix (ix (ex 115 (c 1)) (ex 108 (c 1)) (.lit false)) (ix (nx 5330) 161 (.lit false)) (.lit false)) (.imp (ex 5827 (c 0)) (fb (ix (ex 5828 (c 2)) (ex 5829 (c 1)) (.lit false)))),rx 7 [5701,8] [5701],rx 30 [8,5701] [5634,5701],leq (c 0) 5701,leq 5701 5491,rx 34 [8,8] [5634,5534],rx 12 [8,101,104,105,112,7,102,5349,115] [5534],rx 33 [8,8,104,111,5350] [5534,5484],rx 12 [8,101,104,105,112,7,102,5349,115] [5484],rx 13 [8,5349,115] [5484],rx 14 [8] [5424,5484],rx 18 [7] [5485],rx 7 [5491,8] [5491],.imp (nx (ex 5349 (c 2))) (eql 5491 5431),.imp (ex 5349 (c 1)) (rx 28 [8] [5484,5424]),rx 12 [8,101,104,105,112,7,102,5349,115] [5424],rx 13 [8,5349,115] [5424],rx 14 [8] [5304,5424],rx 7 [5431,8] [5431],rx 31 [8] [5424,5304],leq (c 0) 5431,leq 5431 5371,.imp (.cmp .neq 5350 (c 2)) (eql 5431 (c 0)),rx 7 [5371,8] [5371],rx 30 [8,5371] [5304,5371],leq (c 0) 5371,leq 5371 5210,rx 12 [8,101,104,105,112,7,102,5349,115] [5304],rx 13 [8,5349,115] [5304],rx 14 [8] [5203,5304],.imp (ex 5350 (c 2)) (eql 115 (c 2)),.imp (ex 5350 (c 1)) (eql 115 (c 1)),.imp (ex 5349 (c 0)) (.imp (.cmp .neq 5248 (c 0)) (rx 6 [8] [5304])),.imp (ix 160 5229 (.lit false)) (fb (ix 5330 (ex 5331 (c 0)) (.lit false))),.imp (ix (ix (nx 160) 5229 (.lit false)) (ix (ex 5230 (c 0)) (ex 107 (c 2)) (.lit false)) (.lit false)) (fb (ix 5330 (ex 5331 (c 1)) (.lit false))),.imp (ix (ix (nx 160) 5229 (.lit false)) (ix (ex 5230 (c 1)) (ex 107 (c 2)) (.lit false)) (.lit false)) (fb (nx 5330)),.imp (ix (nx 160) (nx 5229) (.lit false)) (fb (nx 5330)),.imp (ix (ex 5248 (c 0)) 5330 (.lit false)) (eql 5349 (c 0)),.imp (ix (ex 5248 (c 0)) (nx 5330) (.lit false)) (eql 5349 (c 1)),.imp (ix (ex 5248 (c 0)) (nx 5330) (.lit false)) (rx 6 [8] [5304]),.imp (ix (ex 5248 (c 1)) (ex 115 (c 2)) (.lit false)) (eql 5349 (c 2)),.imp (ix (ix (ex 5248 (c 1)) (.cmp .neq 115 (c 2)) (.lit false)) (nx 5330) (.lit false)) (eql 5349 (c 1)),.imp (ix (ex 5248 (c 2)) (nx 5330) (.lit false)) (eql 5349 (c 2)),rx 12 [8,101,104,105,112,7,102,5248,115] [5203],rx 13 [8,5248,115] [5203],rx 14 [8] [202,5203],rx 18 [7] [5204],rx 7 [5210,8] [5210],leq (c 0) 5210,leq 5210 (c 1000000),.imp (ex 5248 (c 0)) (eql 5210 (c 0)),rx 45 [16,8] [5203,202],.imp (ex 16 (c 0)) (fb (ix (ex 5248 147) (ix (.eqb 5229 128) (ex 5230 129) (.lit false)) (.lit false))),rx 43 [8,201] [202,2],leq (c 0) 201,leq 201 (.nat 8),fb (nx (lx 201 (.nat 8)))],.imp (ix (ex 16 (c 0)) (ix (ex 147 (c 0)) (ix 128 (ix (ex 115 (c 1)) (ix (nx 160) (ix 161 (ix (ex 129 (c 1)) (ix (ex 107 (c 2)) (ex 108 (c 1)) (.lit false)) (.lit false)) (.lit false)) (.lit false)) (.lit false)) (.lit false)) (.lit false)) (.lit false)) (fb (ix (ex 5349 (c 1)) (ix (nx 5330) (ix (ex 5827 (c 0)) (ix (ex 5828 (c 2)) (ex 5829 (c 1)) (.lit false)) (.lit false)) (.lit false)) (.lit false))))]:=by
 repeat' (first|exact .nil|refine au ?_ ?_)
 all_goals(
  intro ρ;(intro h;simp only[vS,IE.den,BE.den,LE.den]at h⊢;revert h;(try simp only[and_imp]);intros)
  have c1:ρ.i 16=0∧ρ.i 147=0∧ρ.b 128=true∧ρ.i 115=1∧¬ρ.b 160=true∧ρ.b 161=true∧ρ.i 129=1∧ρ.i 107=2∧ρ.i 108=1:=by grind
  obtain⟨d1,d2,d3,d4,d5,d6,d7,d8,d9⟩:=c1
  have hm0:ρ.i 5248=0∧ρ.b 5229=true∧ρ.i 5230=1:=by grind
  have hg:¬ρ.b 5330=true:=by grind
  have hm:ρ.i 5349=1:=by grind
  have nj:ac 3 [ρ.i 8] [ρ.l 5304]:=by grind
  have k1:=I4 (l:=ρ.l 5424) (l0:=ρ.l 5304) (n:=ρ.i 8) (by assumption) nj
  have k2:=I5 (l:=ρ.l 5484) (l0:=ρ.l 5424) (n:=ρ.i 8) ((by assumption:ρ.i 5349=1→ac 25 [ρ.i 8] [ρ.l 5484,ρ.l 5424]) hm) k1
  have k3:=Db (l:=ρ.l 5534) (l0:=ρ.l 5484) (by assumption) k2
  have k4:=Dc (l:=ρ.l 5634) (l0:=ρ.l 5534) (by assumption) k3
  have hs:¬ac 26 [ρ.i 8] [ρ.l 5634]:=fun hs=>PP hs k4
  have z:ρ.i 5827=0:=Classical.byContradiction fun hz=>hs ((by assumption:(((ρ.i 115=1∧ρ.i 108=1∨¬ρ.i 115=1∧False)∧(¬ρ.b 5330=true∧ρ.b 161=true∨¬¬ρ.b 5330=true∧False))∨¬(ρ.i 115=1∧ρ.i 108=1∨¬ρ.i 115=1∧False)∧False)→ρ.i 5827≠0→ac 26 [ρ.i 8] [ρ.l 5634]) (.inl ⟨.inl ⟨d4,d9⟩,.inl ⟨hg,d6⟩⟩) hz)
  have y:=(by assumption:(((ρ.i 115=1∧ρ.i 108=1∨¬ρ.i 115=1∧False)∧(¬ρ.b 5330=true∧ρ.b 161=true∨¬¬ρ.b 5330=true∧False))∨¬(ρ.i 115=1∧ρ.i 108=1∨¬ρ.i 115=1∧False)∧False)→ρ.i 5827=0→(ρ.i 5828=2∧ρ.i 5829=1∨¬ρ.i 5828=2∧False)) (.inl ⟨.inl ⟨d4,d9⟩,.inl ⟨hg,d6⟩⟩) z
  exact .inl ⟨hm,.inl ⟨hg,.inl ⟨z,y⟩⟩⟩)
theorem GF:afh.ok Tryz.prog:=ao (.cons Jm (.cons Sk (.cons RW (.cons a3d (.cons a32 (.cons Ug (.cons a3w (.cons Jb (.cons S3 .nil))))))))) Y5 (a5t aju (a5t ajv (a5t ajw (a5t ajx (a5t ajy (a5t ajz (a5t ak0 (a5t ak1 (a5t ak2 (a5t ak3 (a5t lw (a5t t5 (a5t t6 (a5t t7 t8)))))))))))))) [3,4,5,2,2,0,0,0,6,16,7,8,17,18,0,0,0,0,0,0,9,19,0,0,10,11,0,0,20,21,0,0,12,13,0,0,20,21,0,0,22,0,0,24,25,2,2,2,23,26,2,2,2,2,2,2,2,2,2,2,14,15,2,2,27,28,29,30,31,35,32,33,34] (by kernel_rfl)
def aap:List CK:=[ki,ki,ki,ki,ki,ki,ki,.bool]
def afi(l n:Nat)(own:Bool:=false):aO×aY:=bJ 51 aap l n own
def afj:bg:={f:=12,M:=200,args:=[W],H0:=[wH [],CV,qQ,aT 2,tH,bJ 3 [ki] 6 6],pre:=fN++[gN,iU 2 (v 147) (v 115)],N:=230,t:=.lf ⟨[.rel aak [v 8] [.var 220,.var 2],eql (v 220) (v 8)],[],.lst 220,[afi 220 220 true]⟩}
def a7i:bg:={f:=10,M:=200,args:=[W],H0:=[wH [],CV,qQ,aT 2,tH,bJ 3 [ki] 6 6],pre:=fN++[gN,iU 2 (v 147) (v 115)],N:=230,t:=.lf ⟨[.rel ael [v 8] [.var 221,.var 2],eql (v 221) (v 8)],[],.lst 221,[bJ 3 [ki] 221 221 true]⟩}
def ahb:bg:={f:=39,M:=10,args:=[iv 1,iv 2],H0:=[],pre:=[.rel aem [v 1,v 2] []],N:=12,t:=.lf ⟨[.be (.var 11)],[],.b (.var 11),[]⟩}
def ad1:bg:={f:=38,M:=10,args:=[.lst 0],H0:=[bJ 3 [ki] 0 0],pre:=.rel Hy [v 0] [.var 0]::bc 0,N:=12,t:=.lf ⟨[.be (.var 11)],[],.b (.var 11),[]⟩}
def Y6:bg:={f:=13,M:=10,args:=[.lst 0,.lst 1],H0:=[bJ 3 [ki] 0 0,bJ 3 [ki] 1 1],pre:=[.rel Hy [v 0] [.var 0],.rel Hy [v 1] [.var 1],.rel aek [v 0] [.var 0,.var 1],eql (v 1) (v 0)]++bc 0,N:=12,t:=.lf ⟨[.be (.var 11)],[],.b (.var 11),[]⟩}
def qy:cj:=fun f r b=>
 bif Nat.beq f 12&&Nat.beq r 5 then some {items:=fun _=>[.ri 13,.rl 3 true 51 aap],inv:=[.rel aak (fun n=>[v n]) (fun n=>[.var (n+1),.var 2]),.be fun n=> .cmp .eql (v (n+1)) (v n)]++co (bu b 12),mes:=fun n=> .sub (bu b 12) (v n)}
 else bif Nat.beq f 10&&Nat.beq r 4 then(match fV b 4 with|.lst _=>some {items:=fun _=>[.ri 5,.rl 3 true 3 [ki]],inv:=[.rel agv (fun n=>[v n]) (fun n=>[.var (n+1),agx b (fV b 4)]),.be fun n=> .cmp .eql (v (n+1)) (v n)]++co (.nat (lr b (fV b 4))),mes:=fun n=> .sub (.nat (lr b (fV b 4))) (v n)}|_=>none)
 else bif Nat.beq f 38&&Nat.beq r 2 then some {items:=fun _=>[.ri 3],inv:=co (.nat (v 0)),mes:=fun n=> .sub (.nat (v 0)) (v n)}
 else bif Nat.beq f 38&&Nat.beq r 7 then some {items:=fun _=>[.ri 4],inv:=co (.nat (v 0)),mes:=fun n=> .sub (.nat (v 0)) (v n)}
 else bif Nat.beq f 13&&Nat.beq r 6 then some {items:=fun _=>[.ri 7],inv:=co (.nat (v 0)),mes:=fun n=> .sub (.nat (v 0)) (v n)}
 else Y5 f r b
theorem a47:ab [([eql 200 (c 0)],rx 39 [200] [201,2]),
([rx 39 [200] [201,2],fb (nx (lx 200 (.nat 8)))],rx 39 [8] [201,2])]:=kj
theorem a48:ab [([eql 200 (c 0),eql 201 (c 0)],eql 201 200),
([eql 200 (c 0)],leq (c 0) 200),
([eql 200 (c 0)],leq 200 (.nat 8)),
([leq (c 0) 200,lss 200 (.nat 8)],lss 200 8),
([eql 201 200,lss 200 (.nat 8),leq 8 (c 64)],leq (.add (.nat 201) (c 1)) (c 4294967296)),
([eql 201 200,leq (c 0) 200],leq (c 0) 201),
([eql 206 (wx (.add 200 (c 1))),lss 200 (.nat 8),leq 8 (c 64)],lss (.nat (.sub (.nat 8) 206)) (.nat (.sub (.nat 8) 200))),
([eql 206 (wx (.add 200 (c 1))),eql 207 (.add (.nat 201) (c 1)),eql 201 200,leq (c 0) 200,lss 200 (.nat 8),leq 8 (c 64)],eql 207 206),
([eql 206 (wx (.add 200 (c 1))),leq (c 0) 200,lss 200 (.nat 8),leq 8 (c 64)],leq (c 0) 206),
([eql 206 (wx (.add 200 (c 1))),leq (c 0) 200,lss 200 (.nat 8)],leq 206 (.nat 8)),
([leq (c 0) 8,eql 201 200,leq 200 (.nat 8),fb (nx (lx 200 (.nat 8)))],eql 201 8)]:=dS
theorem a49:ab [([eql 206 (wx (.add 200 (c 1))),rx 0 [] [207,(ux (ux (ux (ux (ux (ux (ux (ux 201 (.nat 201) 0 (gx 2 200 9)) (.nat 201) 1 (gx 2 200 0)) (.nat 201) 2 (gx 2 200 1)) (.nat 201) 3 (gx 2 200 3)) (.nat 201) 4 (gx 2 200 2)) (.nat 201) 5 (gx 2 200 5)) (.nat 201) 6 (gx 2 200 11)) (.nat 201) 7 (.ite 203 (c 1) (c 0)))],rx 39 [200] [201,2],eql 201 200,leq (c 0) 200,lss 200 (.nat 8),leq 8 (c 64)],rx 39 [206] [207,2])]:=va9
theorem uf:afj.ok Tryz.prog:=ao (.cons m7 .nil) qy (a5t a47 (a5t a48 a49)) [3,5,6,7,2,2,0,0,0,0,0,0,0,0,8,9,10,11,16,12,13,14,4,15] (by kernel_rfl)
theorem Lr:ab [([eql 230 (c 0)],rx 40 [230] [231,220]),
([rx 40 [230] [231,220],rx 39 [8] [220,2],eql 220 8,fb (nx (lx 230 (.nat 220)))],rx 46 [8] [231,2])]:=kj
theorem Ls:ab [([eql 230 (c 0),eql 231 (c 0)],eql 231 230),
([eql 230 (c 0)],leq (c 0) 230),
([eql 230 (c 0)],leq 230 (.nat 220)),
([eql 231 230,eql 220 8,lss 230 (.nat 220),leq 8 (c 64)],leq (.add (.nat 231) (c 1)) (c 4294967296)),
([eql 231 230,leq (c 0) 230],leq (c 0) 231),
([eql 234 (wx (.add 230 (c 1))),eql 220 8,lss 230 (.nat 220),leq 8 (c 64)],lss (.nat (.sub (.nat 220) 234)) (.nat (.sub (.nat 220) 230))),
([eql 234 (wx (.add 230 (c 1))),eql 235 (.add (.nat 231) (c 1)),eql 231 230,leq (c 0) 230,eql 220 8,lss 230 (.nat 220),leq 8 (c 64)],eql 235 234),
([eql 234 (wx (.add 230 (c 1))),leq (c 0) 230,eql 220 8,lss 230 (.nat 220),leq 8 (c 64)],leq (c 0) 234),
([eql 234 (wx (.add 230 (c 1))),leq (c 0) 230,lss 230 (.nat 220)],leq 234 (.nat 220)),
([leq (c 0) 8,eql 231 230,leq 230 (.nat 220),eql 220 8,fb (nx (lx 230 (.nat 220)))],eql 231 8)]:=dS
theorem Lt:ab [([eql 234 (wx (.add 230 (c 1))),rx 0 [] [235,(ux 231 (.nat 231) 0 (gx 220 230 0))],rx 40 [230] [231,220],eql 231 230,leq (c 0) 230,eql 220 8,lss 230 (.nat 220),leq 8 (c 64)],rx 40 [234] [235,220])]:=va9
theorem Lu:a7i.ok Tryz.prog:=ao (.cons uf .nil) qy (a5t Lr (a5t Ls Lt)) [3,5,6,7,2,2,0,8,9,10,15,11,12,13,4,14] (by kernel_rfl)
theorem a9i:ab [([rx 47 [1,2] []],fb (ix (ix (ix (ix (lx 1 (c 0)) (.lit true) (.cmp .gtr 1 (c 5))) (.lit true) (lx 2 (c 0))) (.lit true) (.cmp .gtr 2 (c 5))) (.lit false) (ix (ix (ex 1 2) (.lit true) (ex 2 (c 5))) (.lit true) (ix (ex 1 (c 0)) (ex 2 (c 1)) (ix (ex 1 (c 1)) (ix (ex 2 (c 0)) (.lit true) (ex 2 (c 2))) (ix (ex 1 (c 2)) (ix (ex 2 (c 1)) (.lit true) (ex 2 (c 3))) (ix (ex 1 (c 3)) (ix (ix (ex 2 (c 0)) (.lit true) (ex 2 (c 1))) (.lit true) (ex 2 (c 4))) (ix (ex 1 (c 4)) (ix (ix (ex 2 (c 0)) (.lit true) (ex 2 (c 1))) (.lit true) (ex 2 (c 3))) (ix (ex 2 (c 0)) (.lit true) (ex 2 (c 1)))))))))))]:=by
 repeat' (first|exact .nil|refine au ?_ ?_)
 all_goals(
  intro ρ;(intro h;simp only[vS,IE.den,BE.den,LE.den]at h⊢;revert h;(try simp only[and_imp]);intros)
  have h:=(by assumption:ac 44 [ρ.i 1,ρ.i 2] [])
  simp only[ac,Pb,XE]at h
  obtain⟨h,⟨a0,a5⟩,⟨b0,b5⟩⟩:=h
  have ha:ρ.i 1=0∨ρ.i 1=1∨ρ.i 1=2∨ρ.i 1=3∨ρ.i 1=4∨ρ.i 1=5:=by omega
  have hb:ρ.i 2=0∨ρ.i 2=1∨ρ.i 2=2∨ρ.i 2=3∨ρ.i 2=4∨ρ.i 2=5:=by omega
  rcases ha with ha|ha|ha|ha|ha|ha<;>rcases hb with hb|hb|hb|hb|hb|hb<;>simp[ha,hb]at h⊢)
theorem a9j:ahb.ok Tryz.prog:=ao aS.nil qy a9i [3] (by kernel_rfl)
theorem UE:ab [([eql 10 (c 0)],leq (c 0) 10),
([eql 10 (c 0)],leq 10 (.nat 0)),
([eql 11 (c 0)],leq (c 0) 11),
([eql 11 (c 0)],leq 11 (.nat 0)),
([eql 12 (wx (.add 11 (c 1))),lss 11 (.nat 0),leq 0 (c 1000000)],lss (.nat (.sub (.nat 0) 12)) (.nat (.sub (.nat 0) 11))),
([eql 12 (wx (.add 11 (c 1))),leq (c 0) 11,leq 11 (.nat 0),leq 0 (c 1000000)],leq (c 0) 12),
([eql 12 (wx (.add 11 (c 1))),leq (c 0) 11,lss 11 (.nat 0)],leq 12 (.nat 0)),
([eql 5011 (wx (.add 10 (c 1))),lss 10 (.nat 0),leq 0 (c 1000000)],lss (.nat (.sub (.nat 0) 5011)) (.nat (.sub (.nat 0) 10))),
([eql 5011 (wx (.add 10 (c 1))),leq (c 0) 10,lss 10 (.nat 0),leq 0 (c 1000000)],leq (c 0) 5011),
([eql 5011 (wx (.add 10 (c 1))),leq (c 0) 10,lss 10 (.nat 0)],leq 5011 (.nat 0))]:=dS
theorem UF:ab [([rx 41 [0] [0],leq (c 0) 10,fb (ix (lx (gx 0 10 0) (c 0)) (.lit true) (.cmp .gtr (gx 0 10 0) (c 5))),lss 10 (.nat 0)],fb (.lit false)),
([rx 41 [0] [0],leq (c 0) 11,leq (c 0) 10,fb (ix (ix (.cmp .neq 10 11) (ix (ex (gx 0 10 0) (c 2)) (.lit true) (ex (gx 0 10 0) (c 4))) (.lit false)) (ix (ex (gx 0 11 0) (c 2)) (.lit true) (ex (gx 0 11 0) (c 4))) (.lit false)),lss 11 (.nat 0),lss 10 (.nat 0)],fb (.lit false)),
([rx 41 [0] [0],fb (ix (ix (ex (gx 0 10 0) (c 0)) (.cmp .neq (gx 0 11 0) (c 0)) (.lit false)) (.cmp .neq (gx 0 11 0) (c 5)) (.lit false)),lss 11 (.nat 0),lss 10 (.nat 0)],fb (.lit false))]:=kj
theorem UG:ad1.ok Tryz.prog:=ao aS.nil qy (a5t UE UF) [3,4,2,2,0,2,2,0,5,6,2,2,0,2,2,0,2,2,0,2,2,0,2,2,0,2,2,0,2,2,0,7,8,9,10,11,12,13,14,15,0] (by kernel_rfl)
theorem GG:ab [([eql 1 0,leq (c 0) 0],leq (c 0) 1),
([eql 1 0,leq 0 (c 1000000)],leq 1 (c 1000000)),
([eql 14 (c 0)],leq (c 0) 14),
([eql 14 (c 0)],leq 14 (.nat 0)),
([lss 14 (.nat 0),eql 1 0],lss 14 (.nat 1)),
([leq (c 0) 14,lss 14 (.nat 0),eql 1 0],lss (.nat 14) (.nat 1)),
([eql 17 (wx (.add 14 (c 1))),lss 14 (.nat 0),leq 0 (c 1000000)],lss (.nat (.sub (.nat 0) 17)) (.nat (.sub (.nat 0) 14))),
([eql 17 (wx (.add 14 (c 1))),leq (c 0) 14,leq 14 (.nat 0),leq 0 (c 1000000)],leq (c 0) 17),
([eql 17 (wx (.add 14 (c 1))),leq (c 0) 14,lss 14 (.nat 0)],leq 17 (.nat 0))]:=dS
theorem GH:ab [([leq (c 0) 14,lss 14 (.nat 0),rx 41 [0] [0],rx 41 [1] [1],rx 42 [0] [0,1],eql 1 0],rx 47 [(gx 0 14 0),(gx 1 14 0)] []),
([eql 1 0,fb 13,fb 11,fb (ix (ix (.cmp .neq (.nat 0) (.nat 1)) (.lit true) (nx 11)) (.lit true) (nx 13))],fb (.lit false))]:=kj
theorem GI:Y6.ok Tryz.prog:=ao (.cons UG (.cons a9j .nil)) qy (a5t GG GH) [3,4,5,6,2,2,0,2,7,8,12,9,10,11,13,1,0] (by kernel_rfl)
def vg:List CK:=[ki,ki,ki,ki,ki,ki,ki]
def Ns:SV:=.agg ([.lst 5,iv 101,iv 102,.lst 6]++(List.range 9).map fun i=>iv (104+i))
def bH(own:Bool:=false):aO×aY:=bJ 56 vg 5 5 own
def oH(own:Bool:=false):aO×aY:=bJ 3 [ki] 6 6 own
def a7j:List F:=[.rel ou [v 5] [.var 5],leq (c 0) (v 5),leq (v 5) (c 8)]
def ad2:bg:={f:=18,M:=200,args:=[Ns],H0:=[bH],pre:=a7j,N:=202,t:=.lf ⟨[.rel XQ [v 5,v 201] [.var 5],leq (c 0) (v 201),leq (v 201) (c 64)],[],iv 201,[]⟩}
def afk:bg:={f:=27,M:=200,args:=[Ns,iv 150],H0:=[bH],pre:=a7j++[.rel Nm [c 0,v 5,v 150] [.var 5],leq (v 150) (c 64)],N:=202,t:=.lf ⟨[leq (c 0) (v 201),lss (v 201) (v 5)],[],iv 201,[]⟩}
def Pn:bg:={f:=26,M:=200,args:=[.agg [iv 101,iv 102,iv 103,iv 104,iv 105,iv 106]],H0:=[],pre:=[leq (c 0) (v 101),leq (v 101) (c 1000),leq (c 0) (v 102),leq (v 102) (c 1000),leq (c 0) (v 103),leq (v 103) (c 1000),leq (c 0) (v 104),leq (v 104) (c 100),leq (c 0) (v 105),leq (v 105) (c 1000),leq (c 0) (v 106),leq (v 106) (c 64)],N:=202,t:=.lf ⟨[],[],.ptr (.at 201 0),[(.h 201,.row true (.cells 134 ([iv 101,iv 102,iv 103,iv 104,iv 105,iv 106,.int .u32 (c 0),.int .i32 (c 0),.int .u32 (c 0),.int .i64 (c 0)]++List.replicate 131 (.int .i64 (c 0)))))]⟩}
def ad3:bg:={f:=19,M:=200,args:=[Ns],H0:=[bH,oH],pre:=a7j++bc 6,N:=202,t:=.lf ⟨[],[],.b (.var 201),[]⟩}
def Po:bg:={f:=24,M:=200,args:=[iv 150],H0:=[],pre:=[],N:=215,t:=.lf ⟨[leq (c 0) (v 214),leq (v 214) (c 64)],[],.agg [.int .u32 (c 0),.lst 214],[cI 214 214 true]⟩}
def qz:cj:=fun f r b=>
 bif Nat.beq f 18&&Nat.beq r 3 then some {items:=fun _=>[.ri 9,.ri 3],inv:=[.rel XQ (fun n=>[v n,v (n+1)]) (fun _=>[.var 5]),.be fun n=> .cmp .leq (c 0) (v (n+1)),.be fun n=> .cmp .leq (v (n+1)) (.mul (c 8) (v n))]++co (bu b 8),mes:=fun n=> .sub (bu b 8) (v n)}
 else bif Nat.beq f 27&&Nat.beq r 4 then some {items:=fun _=>[.ri 12,.ri 1],inv:=[.rel Nm (fun n=>[v n,v 5,v (n+1)]) (fun _=>[.var 5]),.be fun n=> .cmp .leq (v (n+1)) (c 64)]++co (bu b 11),mes:=fun n=> .sub (bu b 11) (v n)}
 else bif Nat.beq f 154&&Nat.beq r 2 then some {items:=fun _=>[.ri 8],inv:=co (bu b 7),mes:=fun n=> .sub (bu b 7) (v n)}
 else bif Nat.beq f 99&&Nat.beq r 3 then some {items:=fun b=>[.ri 10,.mw (Nr b 3)],inv:=co (bu b 9),mes:=fun n=> .sub (bu b 9) (v n)}
 else qy f r b
def xq:cj:=fun f r b=>
 bif Nat.beq f 9&&Nat.beq r 7 then some {items:=fun b=>[.ri 35,.gf (eu b 4) 13 89 134 lu,.gl (eu b 4) 13 89],inv:=[.be fun n=> .cmp .eql (v (n+2)) (v n),.rel tG (fun n=>[v (n+2)]) (fun n=>[.var (n+1)])]++co (bu b 34),mes:=fun n=> .sub (bu b 34) (v n)}
 else bif Nat.beq f 9&&Nat.beq r 12 then some {items:=fun b=>[.ri 54,.gf (eu b 4) 14 91 102 CT,.gl (eu b 4) 14 91],inv:=[.be fun n=> .cmp .eql (v (n+2)) (v n),
  .rel un (fun n=>[v (n+2),v 101,v 104,v 105,v 112,lr b (nl b (eu b 4) 13),v 102,c 0,c 1]) (fun n=>[.var (n+1)])]++co (bu b 53),mes:=fun n=> .sub (bu b 53) (v n)}
 else qz f r b
def i0:SV:=.int .i64 (c 0)
def newCells:List SV:=[.lst 205,iv 101,iv 102,.lst 206,iv 104,iv 105,iv 106,iv 107,iv 108,iv 109,iv 110,iv 111,iv 112,.lst 207,.lst 208,.int .i64 (c 1),i0,i0,iv 218,i0,i0,i0,i0,i0,i0,i0,i0,i0,.b (.lit true),i0,i0,i0,i0,.lst 209,i0,i0,i0,.lst 210,.lst 211,.lst 212,i0,.lst 213,.b (.lit false),.int .i64 (c (-1)),i0,.int .u32 (c 0),.lst 214,i0,i0,.ptr (.at 204 0),.lst 215]
def ahc:bg:={f:=9,M:=200,args:=[Ns],H0:=[bH,oH],pre:=a7j++bc 6++[leq (v 6) (c 64),.rel rY [v 101,v 102,v 104,v 105,v 106,v 107,v 108,v 109,v 110,v 111,v 112,c 0,v 5,v 5,v 6] []],N:=300,t:=.or (.lf ⟨[],[],.tup [.nilp,iv 240],[]⟩) (.lf ⟨[leq (c 0) (v 208),leq (v 208) (c 64),.rel rY [v 101,v 102,v 104,v 105,v 106,v 107,v 108,v 109,v 110,v 111,v 112,v 208,v 207,v 205,v 206] [],.rel un [v 208,v 101,v 104,v 105,v 112,v 207,v 102,c 0,c 1] [.var 202],.rel tG [v 207] [.var 203],leq (c 0) (v 218),leq (v 218) (c 8),eql (v 209) (c 0),eql (v 210) (c 0),eql (v 211) (c 0),eql (v 212) (c 0),eql (v 213) (c 0),eql (v 215) (c 0),leq (c 0) (v 214),leq (v 214) (c 64)],[],.tup [.ptr (.at 201 0),iv 240],[(.h 201,.row true (.cells 88 newCells)),bJ 89 [.ptr 203] 207 207,bJ 91 [.ptr 202] 208 208,(.h 202,.row true (.fam 102 CT (v 208) (.var 202))),(.h 203,.row true (.fam 134 lu (v 207) (.var 203))),(.h 204,.row true (.cells 121 [i0,i0,i0])),bJ 56 vg 205 205,bJ 3 [ki] 206 206,bx 209 209,bx 210 210,bA 211 211,bA 212 212,bA 213 213,cI 214 214,bJ 3 [ki] 215 215]⟩)}
theorem UH:ab [([eql 201 (c 0),eql 202 (c 0),rx 48 [5] [5],leq (c 0) 5,leq 5 (c 8)],rx 49 [201,202] [5])]:=by
 repeat' (first|exact .nil|refine au ?_ ?_)
 all_goals(
  intro ρ;(intro h;simp only[vS,IE.den,BE.den,LE.den]at h⊢;revert h;(try simp only[and_imp]);intros)
  exact ag7 (by assumption) (by assumption))
theorem UI:ab [([eql 202 (c 0)],leq (c 0) 202),
([eql 201 (c 0),eql 202 (c 0)],leq 202 (.mul (c 8) 201)),
([eql 201 (c 0)],leq (c 0) 201),
([eql 201 (c 0)],leq 201 (.nat 5)),
([eql 204 (wx (.add 201 (c 1))),lss 201 (.nat 5),leq 5 (c 8)],lss (.nat (.sub (.nat 5) 204)) (.nat (.sub (.nat 5) 201))),
([eql 204 (wx (.add 201 (c 1))),leq (c 0) 201,lss 201 (.nat 5),leq 5 (c 8)],leq (c 0) 204),
([eql 204 (wx (.add 201 (c 1))),leq (c 0) 201,lss 201 (.nat 5)],leq 204 (.nat 5)),
([leq 5 (c 8),leq 202 (.mul (c 8) 201),leq 201 (.nat 5)],leq 202 (c 64))]:=dS
theorem UJ:ab [([eql 204 (wx (.add 201 (c 1))),eql 205 (wx (.add 202 (gx 5 201 0))),rx 49 [201,202] [5],leq (c 0) 202,leq 202 (.mul (c 8) 201),leq (c 0) 201,leq 201 (.nat 5),lss 201 (.nat 5),rx 48 [5] [5],leq (c 0) 5,leq 5 (c 8)],rx 49 [204,205] [5])]:=by
 repeat' (first|exact .nil|refine au ?_ ?_)
 all_goals(
  intro ρ;(intro h;simp only[vS,IE.den,BE.den,LE.den]at h⊢;revert h;(try simp only[and_imp]);intros)
  have hb:=(by assumption:ac 45 [ρ.i 5] [ρ.l 5])
  simp only[ac,dH]at hb
  have hb:=hb (ρ.i 201).toNat (by((try simp only[IntKind.wrap_i64,Int.ofNat_toNat]at*);omega))
  exact Z8 (i:=ρ.i 201) (s:=ρ.i 202) (by assumption) (by((try simp only[IntKind.wrap_i64,Int.ofNat_toNat]at*);omega)) (by((try simp only[IntKind.wrap_i64,Int.ofNat_toNat]at*);omega)))
theorem UK:ab [([eql 204 (wx (.add 201 (c 1))),eql 205 (wx (.add 202 (gx 5 201 0))),rx 49 [201,202] [5],leq (c 0) 202,leq 202 (.mul (c 8) 201),leq (c 0) 201,leq 201 (.nat 5),lss 201 (.nat 5),rx 48 [5] [5],leq (c 0) 5,leq 5 (c 8)],leq (c 0) 205)]:=by
 repeat' (first|exact .nil|refine au ?_ ?_)
 all_goals(
  intro ρ;(intro h;simp only[vS,IE.den,BE.den,LE.den]at h⊢;revert h;(try simp only[and_imp]);intros)
  have hb:=(by assumption:ac 45 [ρ.i 5] [ρ.l 5])
  simp only[ac,dH]at hb
  have hb:=hb (ρ.i 201).toNat (by((try simp only[IntKind.wrap_i64,Int.ofNat_toNat]at*);omega))
  ((try simp only[IntKind.wrap_i64,Int.ofNat_toNat]at*);omega))
theorem UL:ab [([eql 204 (wx (.add 201 (c 1))),eql 205 (wx (.add 202 (gx 5 201 0))),rx 49 [201,202] [5],leq (c 0) 202,leq 202 (.mul (c 8) 201),leq (c 0) 201,leq 201 (.nat 5),lss 201 (.nat 5),rx 48 [5] [5],leq (c 0) 5,leq 5 (c 8)],leq 205 (.mul (c 8) 204))]:=by
 repeat' (first|exact .nil|refine au ?_ ?_)
 all_goals(
  intro ρ;(intro h;simp only[vS,IE.den,BE.den,LE.den]at h⊢;revert h;(try simp only[and_imp]);intros)
  have hb:=(by assumption:ac 45 [ρ.i 5] [ρ.l 5])
  simp only[ac,dH]at hb
  have hb:=hb (ρ.i 201).toNat (by((try simp only[IntKind.wrap_i64,Int.ofNat_toNat]at*);omega))
  ((try simp only[IntKind.wrap_i64,Int.ofNat_toNat]at*);omega))
theorem UM:ab [([leq (c 0) 5,rx 49 [201,202] [5],leq 201 (.nat 5),fb (nx (lx 201 (.nat 5)))],rx 49 [5,202] [5])]:=s8
theorem mC:ad2.ok Tryz.prog:=ao aS.nil qz (a5t UH (a5t UI (a5t UJ (a5t UK (a5t UL UM))))) [3,4,5,6,7,2,2,0,8,12,13,14,9,10,15,2,11] (by kernel_rfl)
theorem a4a:ab [([eql 201 (c 0),eql 202 150,rx 50 [(c 0),5,150] [5]],rx 50 [201,5,202] [5])]:=s8
theorem a4b:ab [([eql 202 150,leq 150 (c 64)],leq 202 (c 64)),
([eql 201 (c 0)],leq (c 0) 201),
([eql 201 (c 0)],leq 201 (.nat 5)),
([eql 204 (wx (.add 201 (c 1))),lss 201 (.nat 5),leq 5 (c 8)],lss (.nat (.sub (.nat 5) 204)) (.nat (.sub (.nat 5) 201))),
([eql 204 (wx (.add 201 (c 1))),leq (c 0) 201,leq 201 (.nat 5),leq 5 (c 8)],leq (c 0) 204),
([eql 204 (wx (.add 201 (c 1))),leq (c 0) 201,lss 201 (.nat 5)],leq 204 (.nat 5)),
([leq (c 0) 201,lss 201 (.nat 5)],lss 201 5)]:=dS
theorem a4c:ab [([eql 204 (wx (.add 201 (c 1))),eql 205 (wx (.sub 202 (gx 5 201 0))),rx 50 [201,5,202] [5],leq 202 (c 64),leq (c 0) 201,leq 201 (.nat 5),fb (nx (lx 202 (gx 5 201 0))),lss 201 (.nat 5),fb (nx (lx 150 (c 0))),rx 48 [5] [5],leq (c 0) 5,leq 5 (c 8),rx 50 [(c 0),5,150] [5],leq 150 (c 64)],rx 50 [204,5,205] [5])]:=by
 repeat' (first|exact .nil|refine au ?_ ?_)
 all_goals(
  intro ρ;(intro h;simp only[vS,IE.den,BE.den,LE.den]at h⊢;revert h;(try simp only[and_imp]);intros)
  have hb:=(by assumption:ac 45 [ρ.i 5] [ρ.l 5])
  simp only[ac,dH]at hb
  have hb:=hb (ρ.i 201).toNat (by((try simp only[IntKind.wrap_i64,Int.ofNat_toNat]at*);omega))
  exact I6 (i:=ρ.i 201) (x:=ρ.i 202) (by assumption) (by assumption) (by((try simp only[IntKind.wrap_i64,Int.ofNat_toNat]at*);omega)) (by((try simp only[IntKind.wrap_i64,Int.ofNat_toNat]at*);omega)) (by((try simp only[IntKind.wrap_i64,Int.ofNat_toNat]at*);omega)))
theorem a4d:ab [([eql 204 (wx (.add 201 (c 1))),eql 205 (wx (.sub 202 (gx 5 201 0))),rx 50 [201,5,202] [5],leq 202 (c 64),leq (c 0) 201,leq 201 (.nat 5),fb (nx (lx 202 (gx 5 201 0))),lss 201 (.nat 5),fb (nx (lx 150 (c 0))),rx 48 [5] [5],leq (c 0) 5,leq 5 (c 8),rx 50 [(c 0),5,150] [5],leq 150 (c 64)],leq 205 (c 64))]:=by
 repeat' (first|exact .nil|refine au ?_ ?_)
 all_goals(
  intro ρ;(intro h;simp only[vS,IE.den,BE.den,LE.den]at h⊢;revert h;(try simp only[and_imp]);intros)
  have hb:=(by assumption:ac 45 [ρ.i 5] [ρ.l 5])
  simp only[ac,dH]at hb
  have hb:=hb (ρ.i 201).toNat (by((try simp only[IntKind.wrap_i64,Int.ofNat_toNat]at*);omega))
  ((try simp only[IntKind.wrap_i64,Int.ofNat_toNat]at*);omega))
theorem a4e:ab [([rx 50 [(c 0),5,150] [5],lss 150 (c 0)],fb (.lit false)),
([rx 50 [201,5,202] [5],fb (nx (lx 201 (.nat 5)))],fb (.lit false))]:=qR
theorem GJ:afk.ok Tryz.prog:=ao aS.nil qz (a5t a4a (a5t a4b (a5t a4c (a5t a4d a4e)))) [3,4,5,6,2,2,0,7,11,12,8,9,13,13,2,10,14,14] (by kernel_rfl)
theorem BF:ab [([leq (c 0) 101,leq 101 (c 1000),leq (c 0) 102,leq 102 (c 1000),leq (c 0) 103,leq 103 (c 1000),leq (c 0) 104,leq 104 (c 100),leq (c 0) 105,leq 105 (c 1000),leq (c 0) 106,leq 106 (c 64),fb (nx (ix (ix (ix (ix (ix (ix (.cmp .geq 101 (c 0)) (jx 101 (c 1000)) (.lit false)) (ix (.cmp .geq 102 (c 0)) (jx 102 (c 1000)) (.lit false)) (.lit false)) (ix (.cmp .geq 103 (c 0)) (jx 103 (c 1000)) (.lit false)) (.lit false)) (ix (.cmp .geq 105 (c 0)) (jx 105 (c 1000)) (.lit false)) (.lit false)) (ix (.cmp .geq 104 (c 0)) (jx 104 (c 100)) (.lit false)) (.lit false)) (ix (.cmp .geq 106 (c 0)) (jx 106 (c 64)) (.lit false)) (.lit false)))],fb (.lit false))]:=s8
theorem pR:Pn.ok Tryz.prog:=Nn aS.nil qz BF [3] (by kernel_rfl)
theorem UN:ab [([eql 206 (c 0)],leq (c 0) 206),
([eql 206 (c 0)],leq 206 (.nat 5)),
([eql 209 (wx (.add 206 (c 1))),lss 206 (.nat 5),fb (ix (.cmp .geq (.nat 5) (c 1)) (jx (.nat 5) (c 8)) (.lit false))],lss (.nat (.sub (.nat 5) 209)) (.nat (.sub (.nat 5) 206))),
([eql 209 (wx (.add 206 (c 1))),leq (c 0) 206,lss 206 (.nat 5),fb (ix (.cmp .geq (.nat 5) (c 1)) (jx (.nat 5) (c 8)) (.lit false))],leq (c 0) 209),
([eql 209 (wx (.add 206 (c 1))),leq (c 0) 206,lss 206 (.nat 5)],leq 209 (.nat 5)),
([eql 5218 (c 0)],leq (c 0) 5218),
([eql 5218 (c 0)],leq 5218 (.nat 6)),
([eql 5223 (wx (.add 5218 (c 1))),lss 5218 (.nat 6),leq 6 (c 1000000)],lss (.nat (.sub (.nat 6) 5223)) (.nat (.sub (.nat 6) 5218))),
([eql 5223 (wx (.add 5218 (c 1))),leq (c 0) 5218,leq 5218 (.nat 6),leq 6 (c 1000000)],leq (c 0) 5223),
([eql 5223 (wx (.add 5218 (c 1))),leq (c 0) 5218,lss 5218 (.nat 6)],leq 5223 (.nat 6)),
([eql 10233 (c 0)],leq (c 0) 10233),
([eql 10233 (c 0)],leq 10233 (.nat 6)),
([eql 10238 (wx (.add 10233 (c 1))),lss 10233 (.nat 6),leq 6 (c 1000000)],lss (.nat (.sub (.nat 6) 10238)) (.nat (.sub (.nat 6) 10233))),
([eql 10238 (wx (.add 10233 (c 1))),leq (c 0) 10233,leq 10233 (.nat 6),leq 6 (c 1000000)],leq (c 0) 10238),
([eql 10238 (wx (.add 10233 (c 1))),leq (c 0) 10233,lss 10233 (.nat 6)],leq 10238 (.nat 6))]:=dS
theorem UO:ad3.ok Tryz.prog:=ao (.cons mC .nil) qz UN [0,0,0,0,3,4,2,2,0,5,6,7,0,0,0,0,0,0,0,0,0,0,0,0,0,0,0,0,0,0,8,9,2,2,0,10,11,12,0,0,0,0,0,0,0,0,0,0,0,0,0,0,0,0,0,0,13,14,2,2,0,15,16,17] (by kernel_rfl)
theorem BG:ab [([fb (nx (ix (lx 150 (c 0)) (.lit true) (.cmp .gtr 150 (c 64))))],leq (c 0) 150),
([fb (nx (ix (lx 150 (c 0)) (.lit true) (.cmp .gtr 150 (c 64))))],leq 150 (c 4294967296)),
([fb (nx (ix (lx 150 (c 0)) (.lit true) (.cmp .gtr 150 (c 64))))],leq 150 (c 64))]:=dS
theorem pS:Po.ok Tryz.prog:=ao aS.nil qz BG [0,0,3,4,0,0,3,5] (by kernel_rfl)
theorem akf:ab [([leq 5 (c 8)],leq 5 (c 1000000)),
([eql 204 5,leq (c 0) 5],leq (c 0) 204),
([eql 204 5,leq 5 (c 8)],leq 204 (c 8)),
([eql 226 (c 0),eql 228 (c 0)],eql 228 226),
([eql 226 (c 0)],leq (c 0) 226),
([eql 226 (c 0)],leq 226 (.nat 204)),
([eql 228 226,eql 204 5,lss 226 (.nat 204),leq 5 (c 8)],leq (.add 228 (c 1)) (c 4294967296)),
([eql 228 226,leq (c 0) 226],leq (c 0) 228),
([],eql 228 228),
([eql 235 (wx (.add 226 (c 1))),eql 204 5,lss 226 (.nat 204),leq 5 (c 8)],lss (.nat (.sub (.nat 204) 235)) (.nat (.sub (.nat 204) 226))),
([eql 235 (wx (.add 226 (c 1))),eql 237 (.add 228 (c 1)),eql 228 226,leq (c 0) 226,eql 204 5,lss 226 (.nat 204),leq 5 (c 8)],eql 237 235),
([eql 235 (wx (.add 226 (c 1))),leq (c 0) 226,eql 204 5,lss 226 (.nat 204),leq 5 (c 8)],leq (c 0) 235),
([eql 235 (wx (.add 226 (c 1))),leq (c 0) 226,lss 226 (.nat 204)],leq 235 (.nat 204)),
([eql 5228 (c 0),eql 5230 (c 0)],eql 5230 5228),
([eql 5228 (c 0)],leq (c 0) 5228),
([eql 5228 (c 0),leq (c 0) 5227],leq 5228 5227),
([leq 5227 (c 64),lss 5228 5227],leq 5228 (c 64)),
([eql 5230 5228,leq 5228 5227,leq 5227 (c 64)],leq (.add 5230 (c 1)) (c 4294967296)),
([eql 5230 5228,leq (c 0) 5228],leq (c 0) 5230),
([],eql 5230 5230),
([eql 5237 (wx (.add 5228 (c 1))),leq 5227 (c 64),lss 5228 5227],lss (.nat (.sub 5227 5237)) (.nat (.sub 5227 5228))),
([eql 5237 (wx (.add 5228 (c 1))),eql 5239 (.add 5230 (c 1)),eql 5230 5228,leq (c 0) 5228,leq 5228 5227,leq 5227 (c 64)],eql 5239 5237),
([eql 5237 (wx (.add 5228 (c 1))),leq (c 0) 5228,leq 5227 (c 64),lss 5228 5227],leq (c 0) 5237),
([eql 5237 (wx (.add 5228 (c 1))),leq (c 0) 5228,lss 5228 5227],leq 5237 5227),
([eql 5230 5228,leq (c 0) 5228],leq (c 0) 5230),
([eql 5230 5228,leq 5228 5227,leq 5227 (c 64)],leq 5230 (c 64)),
([],leq (c 0) (.mn (.mx 109 (c 0)) (c 8))),
([],leq (.mn (.mx 109 (c 0)) (c 8)) (c 8))]:=dS
theorem akg:ab [([eql 204 5,rx 3 [5] [204,5],rx 48 [5] [5]],rx 48 [204] [204])]:=va7
theorem akh:ab [([eql 228 (c 0)],rx 18 [228] [227])]:=by
 repeat' (first|exact .nil|refine au ?_ ?_)
 all_goals(
  intro ρ h;simp only[vS,IE.den,BE.den,LE.den]at h⊢
  have h0:=h
  try simp only[IntKind.wrap_i64]at*
  intro a ha
  try simp only[aC,fR,xh,XE,ae]at⊢
  grind)
theorem aki:ab [([eql 228 226,rx 18 [228] [227],leq (c 0) 226,leq 226 (.nat 204),rx 49 [204,208] [204],leq (c 0) 208,leq 208 (c 64),eql 204 5,rx 3 [5] [204,5],eql 203 6,rx 3 [6] [203,6],lss 226 (.nat 204),rx 48 [5] [5],leq (c 0) 5,leq 5 (c 8),leq (c 0) 6,leq 6 (c 1000000),leq 6 (c 64),rx 16 [101,102,104,105,106,107,108,109,110,111,112,(c 0),5,5,6] []],leq (c 0) (gx 204 226 1)),
([eql 228 226,rx 18 [228] [227],leq (c 0) 226,leq 226 (.nat 204),rx 49 [204,208] [204],leq (c 0) 208,leq 208 (c 64),eql 204 5,rx 3 [5] [204,5],eql 203 6,rx 3 [6] [203,6],lss 226 (.nat 204),rx 48 [5] [5],leq (c 0) 5,leq 5 (c 8),leq (c 0) 6,leq 6 (c 1000000),leq 6 (c 64),rx 16 [101,102,104,105,106,107,108,109,110,111,112,(c 0),5,5,6] []],leq (gx 204 226 1) (c 1000))]:=by
  repeat' (first|exact .nil|refine au ?_ ?_)
  all_goals(
   intro ρ h;simp only[vS,IE.den,BE.den,LE.den]at h⊢
   obtain⟨h0,h1,h2,h3,h4,h5,h6,h7,h8,h9,h10,h11,h12,h13⟩:=h
   have x:=h12 (ρ.i 226).toNat (by omega)
   have y:=h8 (ρ.i 226).toNat 1 (by omega)
   clear h1 h4 h8 h10 h12 h13
   omega)
theorem akj:ab [([eql 228 226,rx 18 [228] [227],leq (c 0) 226,leq 226 (.nat 204),rx 49 [204,208] [204],leq (c 0) 208,leq 208 (c 64),eql 204 5,rx 3 [5] [204,5],eql 203 6,rx 3 [6] [203,6],lss 226 (.nat 204),rx 48 [5] [5],leq (c 0) 5,leq 5 (c 8),leq (c 0) 6,leq 6 (c 1000000),leq 6 (c 64),rx 16 [101,102,104,105,106,107,108,109,110,111,112,(c 0),5,5,6] []],leq (c 0) (gx 204 226 2)),
([eql 228 226,rx 18 [228] [227],leq (c 0) 226,leq 226 (.nat 204),rx 49 [204,208] [204],leq (c 0) 208,leq 208 (c 64),eql 204 5,rx 3 [5] [204,5],eql 203 6,rx 3 [6] [203,6],lss 226 (.nat 204),rx 48 [5] [5],leq (c 0) 5,leq 5 (c 8),leq (c 0) 6,leq 6 (c 1000000),leq 6 (c 64),rx 16 [101,102,104,105,106,107,108,109,110,111,112,(c 0),5,5,6] []],leq (gx 204 226 2) (c 1000))]:=by
  repeat' (first|exact .nil|refine au ?_ ?_)
  all_goals(
   intro ρ h;simp only[vS,IE.den,BE.den,LE.den]at h⊢
   obtain⟨h0,h1,h2,h3,h4,h5,h6,h7,h8,h9,h10,h11,h12,h13⟩:=h
   have x:=h12 (ρ.i 226).toNat (by omega)
   have y:=h8 (ρ.i 226).toNat 2 (by omega)
   clear h1 h4 h8 h10 h12 h13
   omega)
theorem akk:ab [([eql 228 226,rx 18 [228] [227],leq (c 0) 226,leq 226 (.nat 204),rx 49 [204,208] [204],leq (c 0) 208,leq 208 (c 64),eql 204 5,rx 3 [5] [204,5],eql 203 6,rx 3 [6] [203,6],lss 226 (.nat 204),rx 48 [5] [5],leq (c 0) 5,leq 5 (c 8),leq (c 0) 6,leq 6 (c 1000000),leq 6 (c 64),rx 16 [101,102,104,105,106,107,108,109,110,111,112,(c 0),5,5,6] []],leq (c 0) (gx 204 226 3)),
([eql 228 226,rx 18 [228] [227],leq (c 0) 226,leq 226 (.nat 204),rx 49 [204,208] [204],leq (c 0) 208,leq 208 (c 64),eql 204 5,rx 3 [5] [204,5],eql 203 6,rx 3 [6] [203,6],lss 226 (.nat 204),rx 48 [5] [5],leq (c 0) 5,leq 5 (c 8),leq (c 0) 6,leq 6 (c 1000000),leq 6 (c 64),rx 16 [101,102,104,105,106,107,108,109,110,111,112,(c 0),5,5,6] []],leq (gx 204 226 3) (c 1000))]:=by
  repeat' (first|exact .nil|refine au ?_ ?_)
  all_goals(
   intro ρ h;simp only[vS,IE.den,BE.den,LE.den]at h⊢
   obtain⟨h0,h1,h2,h3,h4,h5,h6,h7,h8,h9,h10,h11,h12,h13⟩:=h
   have x:=h12 (ρ.i 226).toNat (by omega)
   have y:=h8 (ρ.i 226).toNat 3 (by omega)
   clear h1 h4 h8 h10 h12 h13
   omega)
theorem akl:ab [([eql 228 226,rx 18 [228] [227],leq (c 0) 226,leq 226 (.nat 204),rx 49 [204,208] [204],leq (c 0) 208,leq 208 (c 64),eql 204 5,rx 3 [5] [204,5],eql 203 6,rx 3 [6] [203,6],lss 226 (.nat 204),rx 48 [5] [5],leq (c 0) 5,leq 5 (c 8),leq (c 0) 6,leq 6 (c 1000000),leq 6 (c 64),rx 16 [101,102,104,105,106,107,108,109,110,111,112,(c 0),5,5,6] []],leq (c 0) (gx 204 226 4)),
([eql 228 226,rx 18 [228] [227],leq (c 0) 226,leq 226 (.nat 204),rx 49 [204,208] [204],leq (c 0) 208,leq 208 (c 64),eql 204 5,rx 3 [5] [204,5],eql 203 6,rx 3 [6] [203,6],lss 226 (.nat 204),rx 48 [5] [5],leq (c 0) 5,leq 5 (c 8),leq (c 0) 6,leq 6 (c 1000000),leq 6 (c 64),rx 16 [101,102,104,105,106,107,108,109,110,111,112,(c 0),5,5,6] []],leq (gx 204 226 4) (c 100))]:=by
  repeat' (first|exact .nil|refine au ?_ ?_)
  all_goals(
   intro ρ h;simp only[vS,IE.den,BE.den,LE.den]at h⊢
   obtain⟨h0,h1,h2,h3,h4,h5,h6,h7,h8,h9,h10,h11,h12,h13⟩:=h
   have x:=h12 (ρ.i 226).toNat (by omega)
   have y:=h8 (ρ.i 226).toNat 4 (by omega)
   clear h1 h4 h8 h10 h12 h13
   omega)
theorem akm:ab [([eql 228 226,rx 18 [228] [227],leq (c 0) 226,leq 226 (.nat 204),rx 49 [204,208] [204],leq (c 0) 208,leq 208 (c 64),eql 204 5,rx 3 [5] [204,5],eql 203 6,rx 3 [6] [203,6],lss 226 (.nat 204),rx 48 [5] [5],leq (c 0) 5,leq 5 (c 8),leq (c 0) 6,leq 6 (c 1000000),leq 6 (c 64),rx 16 [101,102,104,105,106,107,108,109,110,111,112,(c 0),5,5,6] []],leq (c 0) (gx 204 226 5)),
([eql 228 226,rx 18 [228] [227],leq (c 0) 226,leq 226 (.nat 204),rx 49 [204,208] [204],leq (c 0) 208,leq 208 (c 64),eql 204 5,rx 3 [5] [204,5],eql 203 6,rx 3 [6] [203,6],lss 226 (.nat 204),rx 48 [5] [5],leq (c 0) 5,leq 5 (c 8),leq (c 0) 6,leq 6 (c 1000000),leq 6 (c 64),rx 16 [101,102,104,105,106,107,108,109,110,111,112,(c 0),5,5,6] []],leq (gx 204 226 5) (c 1000))]:=by
  repeat' (first|exact .nil|refine au ?_ ?_)
  all_goals(
   intro ρ h;simp only[vS,IE.den,BE.den,LE.den]at h⊢
   obtain⟨h0,h1,h2,h3,h4,h5,h6,h7,h8,h9,h10,h11,h12,h13⟩:=h
   have x:=h12 (ρ.i 226).toNat (by omega)
   have y:=h8 (ρ.i 226).toNat 5 (by omega)
   clear h1 h4 h8 h10 h12 h13
   omega)
theorem akn:ab [([eql 228 226,rx 18 [228] [227],leq (c 0) 226,leq 226 (.nat 204),rx 49 [204,208] [204],leq (c 0) 208,leq 208 (c 64),eql 204 5,rx 3 [5] [204,5],eql 203 6,rx 3 [6] [203,6],lss 226 (.nat 204),rx 48 [5] [5],leq (c 0) 5,leq 5 (c 8),leq (c 0) 6,leq 6 (c 1000000),leq 6 (c 64),rx 16 [101,102,104,105,106,107,108,109,110,111,112,(c 0),5,5,6] []],leq (c 0) (gx 204 226 6)),
([eql 228 226,rx 18 [228] [227],leq (c 0) 226,leq 226 (.nat 204),rx 49 [204,208] [204],leq (c 0) 208,leq 208 (c 64),eql 204 5,rx 3 [5] [204,5],eql 203 6,rx 3 [6] [203,6],lss 226 (.nat 204),rx 48 [5] [5],leq (c 0) 5,leq 5 (c 8),leq (c 0) 6,leq 6 (c 1000000),leq 6 (c 64),rx 16 [101,102,104,105,106,107,108,109,110,111,112,(c 0),5,5,6] []],leq (gx 204 226 6) (c 64))]:=by
  repeat' (first|exact .nil|refine au ?_ ?_)
  all_goals(
   intro ρ h;simp only[vS,IE.den,BE.den,LE.den]at h⊢
   obtain⟨h0,h1,h2,h3,h4,h5,h6,h7,h8,h9,h10,h11,h12,h13⟩:=h
   have x:=h12 (ρ.i 226).toNat (by omega)
   have y:=h8 (ρ.i 226).toNat 6 (by omega)
   clear h1 h4 h8 h10 h12 h13
   omega)
theorem ako:ab [([rx 0 [] [236,(ux (ux (ux (ux (ux (ux (ux (ux (ux (ux (ux (ux (ux (ux (ux (ux (ux (ux (ux (ux (ux (ux (ux (ux (ux (ux (ux (ux (ux (ux (ux (ux (ux (ux (ux (ux (ux (ux (ux (ux (ux (ux (ux (ux (ux (ux (ux (ux (ux (ux (ux (ux (ux (ux (ux (ux (ux (ux (ux (ux (ux (ux (ux (ux (ux (ux (ux (ux (ux (ux (ux (ux (ux (ux (ux (ux (ux (ux (ux (ux (ux (ux (ux (ux (ux (ux (ux (ux (ux (ux (ux (ux (ux (ux (ux (ux (ux (ux (ux (ux (ux (ux (ux (ux (ux (ux (ux (ux (ux (ux (ux (ux (ux (ux (ux (ux (ux (ux (ux (ux (ux (ux (ux (ux (ux (ux (ux (ux (ux (ux (ux (ux (ux (ux (ux (ux (ux (ux (ux (ux (ux 227 228 0 (gx 204 226 1)) 228 1 (gx 204 226 2)) 228 2 (gx 204 226 3)) 228 3 (gx 204 226 4)) 228 4 (gx 204 226 5)) 228 5 (gx 204 226 6)) 228 6 (c 0)) 228 7 (c 0)) 228 8 (c 0)) 228 9 (c 0)) 228 10 (c 0)) 228 11 (c 0)) 228 12 (c 0)) 228 13 (c 0)) 228 14 (c 0)) 228 15 (c 0)) 228 16 (c 0)) 228 17 (c 0)) 228 18 (c 0)) 228 19 (c 0)) 228 20 (c 0)) 228 21 (c 0)) 228 22 (c 0)) 228 23 (c 0)) 228 24 (c 0)) 228 25 (c 0)) 228 26 (c 0)) 228 27 (c 0)) 228 28 (c 0)) 228 29 (c 0)) 228 30 (c 0)) 228 31 (c 0)) 228 32 (c 0)) 228 33 (c 0)) 228 34 (c 0)) 228 35 (c 0)) 228 36 (c 0)) 228 37 (c 0)) 228 38 (c 0)) 228 39 (c 0)) 228 40 (c 0)) 228 41 (c 0)) 228 42 (c 0)) 228 43 (c 0)) 228 44 (c 0)) 228 45 (c 0)) 228 46 (c 0)) 228 47 (c 0)) 228 48 (c 0)) 228 49 (c 0)) 228 50 (c 0)) 228 51 (c 0)) 228 52 (c 0)) 228 53 (c 0)) 228 54 (c 0)) 228 55 (c 0)) 228 56 (c 0)) 228 57 (c 0)) 228 58 (c 0)) 228 59 (c 0)) 228 60 (c 0)) 228 61 (c 0)) 228 62 (c 0)) 228 63 (c 0)) 228 64 (c 0)) 228 65 (c 0)) 228 66 (c 0)) 228 67 (c 0)) 228 68 (c 0)) 228 69 (c 0)) 228 70 (c 0)) 228 71 (c 0)) 228 72 (c 0)) 228 73 (c 0)) 228 74 (c 0)) 228 75 (c 0)) 228 76 (c 0)) 228 77 (c 0)) 228 78 (c 0)) 228 79 (c 0)) 228 80 (c 0)) 228 81 (c 0)) 228 82 (c 0)) 228 83 (c 0)) 228 84 (c 0)) 228 85 (c 0)) 228 86 (c 0)) 228 87 (c 0)) 228 88 (c 0)) 228 89 (c 0)) 228 90 (c 0)) 228 91 (c 0)) 228 92 (c 0)) 228 93 (c 0)) 228 94 (c 0)) 228 95 (c 0)) 228 96 (c 0)) 228 97 (c 0)) 228 98 (c 0)) 228 99 (c 0)) 228 100 (c 0)) 228 101 (c 0)) 228 102 (c 0)) 228 103 (c 0)) 228 104 (c 0)) 228 105 (c 0)) 228 106 (c 0)) 228 107 (c 0)) 228 108 (c 0)) 228 109 (c 0)) 228 110 (c 0)) 228 111 (c 0)) 228 112 (c 0)) 228 113 (c 0)) 228 114 (c 0)) 228 115 (c 0)) 228 116 (c 0)) 228 117 (c 0)) 228 118 (c 0)) 228 119 (c 0)) 228 120 (c 0)) 228 121 (c 0)) 228 122 (c 0)) 228 123 (c 0)) 228 124 (c 0)) 228 125 (c 0)) 228 126 (c 0)) 228 127 (c 0)) 228 128 (c 0)) 228 129 (c 0)) 228 130 (c 0)) 228 131 (c 0)) 228 132 (c 0)) 228 133 (c 0)) 228 134 (c 0)) 228 135 (c 0)) 228 136 (c 0)) 228 137 (c 0)) 228 138 (c 0)) 228 139 (c 0)) 228 140 (c 0))],eql 237 (.add 228 (c 1)),rx 18 [228] [227]],rx 18 [237] [236])]:=qR
theorem ak4:ab [([eql 5230 (c 0)],rx 12 [5230,101,104,105,112,228,102,(c 0),(c 1)] [5229])]:=by
 repeat' (first|exact .nil|refine au ?_ ?_)
 all_goals(
  intro ρ h;simp only[vS,IE.den,BE.den,LE.den]at h⊢
  have h0:=h
  try simp only[IntKind.wrap_i64]at*
  refine⟨fun a ha=>?_,fun a b ha hb=>?_⟩
  ·try simp only[aC,fR,xh,XE,ae]at⊢
   grind
  ·try simp only[aC,fR,xh,XE,ae]at⊢
   grind)
theorem ak5:ab [([eql 5230 5228,rx 12 [5230,101,104,105,112,228,102,(c 0),(c 1)] [5229],leq (c 0) 5228,leq 5228 5227,rx 49 [204,5227] [204],leq (c 0) 5227,leq 5227 (c 64),eql 228 226,rx 18 [228] [227],leq (c 0) 226,leq 226 (.nat 204),rx 49 [204,208] [204],leq (c 0) 208,leq 208 (c 64),eql 204 5,rx 3 [5] [204,5],eql 203 6,rx 3 [6] [203,6],lss 5228 5227,fb (nx (lx 226 (.nat 204))),rx 48 [5] [5],leq (c 0) 5,leq 5 (c 8),leq (c 0) 6,leq 6 (c 1000000),leq 6 (c 64),rx 16 [101,102,104,105,106,107,108,109,110,111,112,(c 0),5,5,6] []],rx 50 [(c 0),204,5228] [204])]:=by
 repeat' (first|exact .nil|refine au ?_ ?_)
 all_goals(
  intro ρ;(intro h;simp only[vS,IE.den,BE.den,LE.den]at h⊢;revert h;(try simp only[and_imp]);intros)
  exact vy (s:=ρ.i 5227) (by assumption) (by assumption) (by((try simp only[IntKind.wrap_i64,Int.ofNat_toNat]at*);omega)))
theorem ak6:ab [([eql 5237 (wx (.add 5228 (c 1))),rx 0 [] [5238,(ux (ux (ux (ux (ux (ux (ux (ux (ux (ux (ux (ux (ux (ux (ux 5229 5230 0 (c 0)) 5230 1 (c 0)) 5230 2 (c 0)) 5230 3 105) 5230 4 105) 5230 5 112) 5230 6 112) 5230 7 (c 0)) 5230 8 (c 0)) 5230 9 (c 0)) 5230 10 (c 0)) 5230 11 (c (-1))) 5230 12 (.ite (.lit false) (c 1) (c 0))) 5230 13 (.ite (.lit false) (c 1) (c 0))) 5230 14 5232)],eql 5239 (.add 5230 (c 1)),leq (c 0) 5232,lss 5232 204,eql 5230 5228,rx 12 [5230,101,104,105,112,228,102,(c 0),(c 1)] [5229],leq (c 0) 5228,leq 5228 5227,rx 49 [204,5227] [204],leq (c 0) 5227,leq 5227 (c 64),eql 228 226,rx 18 [228] [227],leq (c 0) 226,leq 226 (.nat 204),rx 49 [204,208] [204],leq (c 0) 208,leq 208 (c 64),eql 204 5,rx 3 [5] [204,5],eql 203 6,rx 3 [6] [203,6],lss 5228 5227,fb (nx (lx 226 (.nat 204))),rx 48 [5] [5],leq (c 0) 5,leq 5 (c 8),leq (c 0) 6,leq 6 (c 1000000),leq 6 (c 64),rx 16 [101,102,104,105,106,107,108,109,110,111,112,(c 0),5,5,6] []],rx 12 [5239,101,104,105,112,228,102,(c 0),(c 1)] [5238])]:=by
 repeat' (first|exact .nil|refine au ?_ ?_)
 all_goals(
  intro ρ;(intro h;simp only[vS,IE.den,BE.den,LE.den]at h⊢;revert h;(try simp only[and_imp]);intros)
  have cf:=(by assumption:ac 13 [ρ.i 101,ρ.i 102,ρ.i 104,ρ.i 105,ρ.i 106,ρ.i 107,ρ.i 108,ρ.i 109,ρ.i 110,ρ.i 111,ρ.i 112,0,ρ.i 5,ρ.i 5,ρ.i 6] [])
  simp only[ac,aV]at cf
  refine Oi (m:=ρ.i 5230) (l:=ρ.l 5229) (bk:=ρ.i 5232) (by assumption) (by assumption) (by((try simp only[IntKind.wrap_i64,Int.ofNat_toNat]at*);omega)) (by omega) (by omega) (by omega) (by omega) (by((try simp only[IntKind.wrap_i64,Int.ofNat_toNat]at*);omega)) ?_ ?_ ?_ ?_ ?_ ?_ ?_ ?_ ?_ ?_
  all_goals(rw[show ρ.l 5238=_ by assumption])
  ·intro a ha j
   simp only[ae,ha,false_and,if_false]
  all_goals simp[ae])
theorem ak7:ab [([rx 16 [101,102,104,105,106,107,108,109,110,111,112,(c 0),5,5,6] [],eql 5230 5228,leq 5228 5227,leq (c 0) 5227,leq 5227 (c 64),eql 228 226,leq 226 (.nat 204),eql 204 5,eql 203 6,fb (nx (lx 5228 5227)),fb (nx (lx 226 (.nat 204)))],rx 16 [101,102,104,105,106,107,108,109,110,111,112,5230,228,204,203] [])]:=va6
theorem a9u:ahc.ok Tryz.prog:=a73 (.cons UO (.cons mC (.cons GJ (.cons pR (.cons oC (.cons nr (.cons pS .nil))))))) xq (a5t akf (a5t akg (a5t akh (a5t aki (a5t akj (a5t akk (a5t akl (a5t akm (a5t akn (a5t ako (a5t ak4 (a5t ak5 (a5t ak6 ak7))))))))))))) [3,31,4,5,6,32,7,8,2,2,0,33,34,35,36,37,38,39,40,41,42,43,44,9,10,11,12,13,45,14,15,31,4,5,16,46,17,18,31,4,5,47,19,20,21,22,23,24,48,25,26,21,28,49,2,2,29,30,0,0,0,0,0,0,2,2] (by kernel_rfl)
def u8(k:Nat):SV:=.int .u8 (.var k)
def zS:SV:=.agg (.lst 20::((List.range 11).map fun i=>u8 (121+i))++[.int .u16 (.var 132),iv 133,iv 134,iv 135,iv 136,iv 137,iv 138])
def zH:aO×aY:=bJ 0 [kb] 20 20
def zF:List F:=.rel agw [v 20] [.var 20]::((List.range 11).flatMap fun i=>[leq (c 0) (v (121+i)),leq (v (121+i)) (c 255)])++[leq (c 0) (v 132),leq (v 132) (c 65535),leq (c 0) (v 20),leq (v 20) (c 4611686018427387904)]
def ad4:SV:=.agg ([.lst 205,iv 241,iv 242,.lst 206]++(List.range 9).map fun i=>iv (244+i))
def ad5:bg:={f:=8,M:=200,args:=[zS],H0:=[zH],pre:=zF,N:=300,t:=.lf ⟨[.rel ou [v 205] [.var 205],leq (c 0) (v 205),leq (v 205) (c 8),leq (c 0) (v 206),leq (v 206) (c 64),.rel rY [v 241,v 242,v 244,v 245,v 246,v 247,v 248,v 249,v 250,v 251,v 252,c 0,v 205,v 205,v 206] []],[],ad4,[bJ 56 vg 205 205,bJ 3 [ki] 206 206]⟩}
def inH:aO×aY:=bJ 0 [.bool,.bool,ki,kq,.val 22] 21 21
def ad6:aO×aY:=(.h 22,.row false (.sls 0 [.i64,.i64,.i64] (v 21) (.var 22)))
def inF:List F:=[leq (c 0) (v 21),leq (v 21) (c 4611686018427387904)]
def ahe:bg:={f:=7,M:=200,args:=[.lst 21],H0:=[inH,ad6],pre:=inF,N:=202,t:=.lf ⟨[.imp (.var 201) (leq (v 21) (c 250)),.imp (.var 201) (.rel XR [v 21] [.var 22])],[],.b (.var 201),[]⟩}
def ad7:bg:={f:=6,M:=200,args:=[],H0:=[gW,XS,g2H],pre:=[],N:=202,t:=.lf ⟨[.be (.var 201)],[],.b (.var 201),[]⟩}
def Nt(b:Br)(s:SV):Nat:=match s with|.lst id=>(match E.ai (.h id) b.H with|some (.row _ (.lst _ [.ptr f] _ _))=>f|_=>0)|_=>0
def pK:List CK:=[ki,ki]
def xr(b:Br)(w:Nat):List E.Item:=
 let m:=aal (nl b w 49)
 [.ci w 15,.ci w 16,.ci w 17,.ci w 19,.ci w 20,.ci w 21,.ci w 22,.ci w 23,.ci w 24,.ci w 25,.ci w 26,.ci w 27,.cb w 28,.ci w 29,.ci w 30,.ci w 31,.ci w 32,.cl w 33 false 153 pK,.ci w 34,.ci w 35,.ci w 36,.cl w 37 false 153 pK,.cl w 38 false 5 [kb],.cl w 39 false 5 [kb],.ci w 40,.cl w 41 false 5 [kb],.cb w 42,.ci w 43,.ci w 44,.ci w 45,.cl w 46 false 72 [kw],.ci w 47,.ci w 48,.cl w 50 false 3 [ki],
  .ci m 0,.ci m 1,.ci m 2,.fm (Nt b (nl b w 14)),.fm (Nt b (nl b w 13))]
def xt(b:Br)(w k:Nat):List pV:=
 let nL:=lr b (nl b w 14)
 let nb:=lr b (nl b w 13)
 let cc:=vf b w
 [.rel un (fun n=>[nL,cc 1,cc 4,cc 5,cc 12,nb,cc 2,v (n+k+31),v (n+k)]) (fun n=>[.var (n+k+37)]),.rel tG (fun _=>[nb]) (fun n=>[.var (n+k+38)]),.rel ee (fun n=>[v (n+k+17),nL]) (fun n=>[.var (n+k+17)]),
  .be fun n=> .ite (fe (v (n+k+31)) (c 0)) (fe (v (n+k+17)) (c 0)) (.lit true),.be fun n=> .cmp .leq (c 0) (v (n+k+17)),.be fun n=> .cmp .leq (v (n+k+17)) (c 1000000),.be fun n=> .cmp .leq (c 0) (v (n+k+21)),.be fun n=> .cmp .leq (v (n+k+21)) (c 1000000),
  .be fun n=> .cmp .leq (c 0) (v (n+k+22)),.be fun n=> .cmp .leq (v (n+k+22)) (c 1000000),.be fun n=> .cmp .leq (c 0) (v (n+k+23)),.be fun n=> .cmp .leq (v (n+k+23)) (c 1000000),.be fun n=> .cmp .leq (c 0) (v (n+k+25)),.be fun n=> .cmp .leq (v (n+k+25)) (c 1000000),
  .be fun n=> .cmp .leq (c 0) (v (n+k+30)),.be fun n=> .cmp .leq (v (n+k+30)) (c 1000000),.be fun n=> .cmp .leq (c 0) (v (n+k+24)),.be fun n=> .cmp .leq (v (n+k+24)) (c 1),.be fun n=> .cmp .leq (c 0) (v (n+k)),.be fun n=> .cmp .leq (v (n+k)) (c 2)]
def HK:SV→Bool
 |.nilp=>true
 |_=>false
def HL:cj:=fun f r b=>
 bif Nat.beq f 8&&Nat.beq r 6 then some {items:=fun b=>[.ri 5,.cl (eu b 4) 0 true 56 vg],inv:=[.rel ou (fun n=>[v (n+1)]) (fun n=>[.var (n+1)]),.be fun n=> .cmp .eql (v (n+1)) (v n),.be fun n=> .cmp .leq (c 0) (v n),.be fun n=> .cmp .leq (v n) (c 3)],mes:=fun n=> .sub (c 3) (v n)}
 else bif Nat.beq f 8&&Nat.beq r 13 then some {items:=fun b=>[.ri 7,.cl (eu b 4) 3 true 3 [ki]],inv:=(.be fun n=> .cmp .eql (v (n+1)) (v n))::co (bu b 6),mes:=fun n=> .sub (bu b 6) (v n)}
 else bif Nat.beq f 7&&Nat.beq r 2 then some {items:=fun _=>[.ri 3],inv:=(.rel XR (fun n=>[v n]) (fun _=>[.var 22]))::co (.nat (v 21)),mes:=fun n=> .sub (.nat (v 21)) (v n)}
 else bif Nat.beq f 4&&Nat.beq r 10 then some (bif HK (fV b 8)then{items:=fun _=>[.ri 10],inv:=co (.nat (v 21)),mes:=fun n=> .sub (.nat (v 21)) (v n)}
  else{items:=fun b=> .ri 10::xr b (eu b 8),inv:=xt b (eu b 8) 1++co (.nat (v 21)),mes:=fun n=> .sub (.nat (v 21)) (v n)})
 else bif Nat.beq f 4&&Nat.beq r 18 then(match fV b 12 with|.lst _=>some {items:=fun _=>[.ri 13],inv:=co (.nat (lr b (fV b 12))),mes:=fun n=> .sub (.nat (lr b (fV b 12))) (v n)}|_=>none)
 else bif Nat.beq f 5&&Nat.beq r 10 then some (bif HK (fV b 8)then{items:=fun _=>[.ri 10],inv:=co (.nat (v 21)),mes:=fun n=> .sub (.nat (v 21)) (v n)}
  else{items:=fun b=> .ri 10::xr b (eu b 8),inv:=xt b (eu b 8) 1++co (.nat (v 21)),mes:=fun n=> .sub (.nat (v 21)) (v n)})
 else bif Nat.beq f 5&&Nat.beq r 17 then(match fV b 13 with|.lst _=>some {items:=fun _=>[.ri 14],inv:=co (.nat (lr b (fV b 13))),mes:=fun n=> .sub (.nat (lr b (fV b 13))) (v n)}|_=>none)
 else bif Nat.beq f 3&&Nat.beq r 11 then some (bif HK (fV b 8)then{items:=fun _=>[.ri 11,.rl 10 false 3 [ki]],inv:=(.be fun n=> .cmp .eql (v (n+1)) (c 0))::co (.nat (v 21)),mes:=fun n=> .sub (.nat (v 21)) (v n)}
  else{items:=fun b=> .ri 11::.rl 10 false 3 [ki]::xr b (eu b 8),inv:=[.rel ael (fun _=>[lr b (nl b (eu b 8) 14)]) (fun n=>[.var (n+1),.var (n+2+37)]),.be fun n=> .cmp .eql (v (n+1)) (lr b (nl b (eu b 8) 14))]++xt b (eu b 8) 2++co (.nat (v 21)),mes:=fun n=> .sub (.nat (v 21)) (v n)})
 else bif Nat.beq f 3&&Nat.beq r 20 then(match fV b 13 with|.lst _=>some {items:=fun _=>[.ri 15],inv:=co (.nat (lr b (fV b 13))),mes:=fun n=> .sub (.nat (lr b (fV b 13))) (v n)}|_=>none)
 else bif Nat.beq f 3&&Nat.beq r 27 then(match fV b 12 with|.lst _=>some {items:=fun _=>[.ri 16],inv:=co (.nat (lr b (fV b 12))),mes:=fun n=> .sub (.nat (lr b (fV b 12))) (v n)}|_=>none)
 else xq f r b
def HM(f:Nat):bg:={f:=f,M:=200,args:=[zS,.lst 21],H0:=[zH,inH,ad6,gW,XS,g2H],pre:=zF++inF,N:=202,t:=.lf ⟨[.be (.var 201)],[],.b (.var 201),[]⟩}
abbrev asb:bg:=HM 3
abbrev afl:bg:=HM 4
abbrev asd:bg:=HM 5
theorem UP:ab [([leq (c 0) 121,leq 121 (c 255)],fb (.cmp .neq (wx (.add (wx (.rem 121 (c 6))) (c 2))) (c 0)))]:=by
 repeat' (first|exact .nil|refine au ?_ ?_)
 all_goals(
  intro ρ;(intro h;simp only[vS,IE.den,BE.den,LE.den]at h⊢;revert h;(try simp only[and_imp]);intros)
  have a1:0≤(ρ.i 121).tmod 6∧(ρ.i 121).tmod 6<6:=⟨Int.tmod_nonneg 6 (by assumption),Int.tmod_lt_of_pos _ (by omega)⟩
  generalize (ρ.i 121).tmod 6=f at*
  simp(disch:=omega) only[cq]at*
  omega)
theorem UQ:ab [([eql 205 (c 0)],rx 48 [205] [205])]:=by
 repeat' (first|exact .nil|refine au ?_ ?_)
 all_goals(
  intro ρ h;simp only[vS,IE.den,BE.den,LE.den]at h⊢
  have h0:=h
  try simp only[IntKind.wrap_i64]at*
  intro a ha
  try simp only[aC,fR,xh,XE,ae]at⊢
  grind)
theorem UR:ab [([eql 204 (c 0),eql 205 (c 0)],eql 205 204),
([eql 204 (c 0)],leq (c 0) 204),
([eql 204 (c 0)],leq 204 (c 3)),
([eql 205 204,leq 204 (c 3)],leq (.add (.nat 205) (c 1)) (c 4294967296)),
([eql 205 204,leq (c 0) 204],leq (c 0) 205),
([eql 208 (wx (.add 204 (c 1))),eql 209 (.add (.nat 205) (c 1)),eql 205 204,leq (c 0) 204,leq 204 (c 3)],eql 209 208),
([eql 208 (wx (.add 204 (c 1))),leq (c 0) 204,leq 204 (c 3)],leq (c 0) 208),
([eql (.nat 205) (c 0)],leq (.add (.nat 205) (c 1)) (c 4294967296)),
([eql 205 204,leq (c 0) 204],leq (c 0) 205),
([],leq (c 0) (.add (.nat 205) (c 1))),
([eql (.nat 205) (c 0)],leq (.add (.nat 205) (c 1)) (c 8)),
([eql 5208 (c 0),eql 5209 (c 0)],eql 5209 5208),
([eql 5208 (c 0)],leq (c 0) 5208),
([eql 5208 (c 0),leq (c 0) 5207],leq 5208 5207),
([leq (c 0) 5208,lss 5208 5207],fb (.cmp .neq 5207 (c 0))),
([eql 5209 5208,leq 5207 (c 64),lss 5208 5207],leq (.add (.nat 5209) (c 1)) (c 4294967296)),
([eql 5209 5208,leq (c 0) 5208],leq (c 0) 5209),
([eql 5212 (wx (.add 5208 (c 1))),leq 5207 (c 64),lss 5208 5207],lss (.nat (.sub 5207 5212)) (.nat (.sub 5207 5208))),
([eql 5212 (wx (.add 5208 (c 1))),eql 5213 (.add (.nat 5209) (c 1)),eql 5209 5208,leq (c 0) 5208,leq 5208 5207,leq 5207 (c 64)],eql 5213 5212),
([eql 5212 (wx (.add 5208 (c 1))),leq (c 0) 5208,leq 5208 5207,leq 5207 (c 64)],leq (c 0) 5212),
([eql 5212 (wx (.add 5208 (c 1))),leq (c 0) 5208,lss 5208 5207],leq 5212 5207),
([fb (nx (ex (.nat 205) (c 0)))],leq (c 0) 205),
([eql 205 204,leq 204 (c 3)],leq 205 (c 8)),
([eql 10210 (c 0),eql 10211 (c 0)],eql 10211 10210),
([eql 10210 (c 0)],leq (c 0) 10210),
([eql 10210 (c 0),leq (c 0) 10209],leq 10210 10209),
([leq (c 0) 10210,lss 10210 10209],fb (.cmp .neq 10209 (c 0))),
([eql 10211 10210,leq 10209 (c 64),lss 10210 10209],leq (.add (.nat 10211) (c 1)) (c 4294967296)),
([eql 10211 10210,leq (c 0) 10210],leq (c 0) 10211),
([eql 10214 (wx (.add 10210 (c 1))),leq 10209 (c 64),lss 10210 10209],lss (.nat (.sub 10209 10214)) (.nat (.sub 10209 10210))),
([eql 10214 (wx (.add 10210 (c 1))),eql 10215 (.add (.nat 10211) (c 1)),eql 10211 10210,leq (c 0) 10210,leq 10210 10209,leq 10209 (c 64)],eql 10215 10214),
([eql 10214 (wx (.add 10210 (c 1))),leq (c 0) 10210,leq 10210 10209,leq 10209 (c 64)],leq (c 0) 10214),
([eql 10214 (wx (.add 10210 (c 1))),leq (c 0) 10210,lss 10210 10209],leq 10214 10209),
([eql 5209 5208,leq (c 0) 5208],leq (c 0) 5209),
([eql 5209 5208,leq 5208 5207,leq 5207 (c 64)],leq 5209 (c 64)),
([eql 10211 10210,leq (c 0) 10210],leq (c 0) 10211),
([eql 10211 10210,leq 10210 10209,leq 10209 (c 64)],leq 10211 (c 64))]:=dS
theorem US:ab [([fb (ix (lx 204 (.nat 20)) (lx 204 (c 3)) (.lit false))],lss 204 (.nat 20)),
([leq (c 0) 204,fb (ix (lx 204 (.nat 20)) (lx 204 (c 3)) (.lit false))],lss (.nat 204) (.nat 20))]:=s8
theorem UT:ab [([eql 208 (wx (.add 204 (c 1))),eql 209 (.add (.nat 205) (c 1)),rx 0 [] [209,(ux (ux (ux (ux (ux (ux (ux 205 (.nat 205) 0 (wx (.add (wx (.rem (.wrap .u8 (gx 20 204 0)) (c 3))) (c 1)))) (.nat 205) 1 (.bits .and .i64 133 (c 63))) (.nat 205) 2 (.bits .and .i64 134 (c 63))) (.nat 205) 3 (.bits .and .i64 135 (c 63))) (.nat 205) 4 (.bits .and .i64 136 (c 15))) (.nat 205) 5 (.bits .and .i64 137 (c 63))) (.nat 205) 6 (.bits .and .i64 138 (c 63)))],rx 48 [205] [205],eql 205 204,leq (c 0) 204,leq 204 (c 3),fb (ix (lx 204 (.nat 20)) (lx 204 (c 3)) (.lit false)),rx 44 [20] [20],leq (c 0) 20,leq 20 (c 4611686018427387904)],lss (.nat (.sub (c 3) 208)) (.nat (.sub (c 3) 204)))]:=by
 repeat' (first|exact .nil|refine au ?_ ?_)
 all_goals(
  intro ρ h;simp only[vS,IE.den,BE.den,LE.den]at h⊢
  obtain⟨h0,h1,h2,h3,h4,h5,h6,h7,h8⟩:=h
  have h9:ρ.i 204<3:=by grind
  simp only[IntKind.wrap_i64]at h0
  have hn:ρ.i 208=ρ.i 204+1:=by clear h7 h8 h2 h3;omega
  clear h7 h8 h2 h3
  omega)
theorem UU:ab [([eql 208 (wx (.add 204 (c 1))),eql 209 (.add (.nat 205) (c 1)),rx 0 [] [209,(ux (ux (ux (ux (ux (ux (ux 205 (.nat 205) 0 (wx (.add (wx (.rem (.wrap .u8 (gx 20 204 0)) (c 3))) (c 1)))) (.nat 205) 1 (.bits .and .i64 133 (c 63))) (.nat 205) 2 (.bits .and .i64 134 (c 63))) (.nat 205) 3 (.bits .and .i64 135 (c 63))) (.nat 205) 4 (.bits .and .i64 136 (c 15))) (.nat 205) 5 (.bits .and .i64 137 (c 63))) (.nat 205) 6 (.bits .and .i64 138 (c 63)))],rx 48 [205] [205],eql 205 204,leq (c 0) 204,leq 204 (c 3),fb (ix (lx 204 (.nat 20)) (lx 204 (c 3)) (.lit false)),rx 44 [20] [20],leq (c 0) 20,leq 20 (c 4611686018427387904)],rx 48 [209] [209])]:=by
 repeat' (first|exact .nil|refine au ?_ ?_)
 all_goals(
  intro ρ;(intro h;simp only[vS,IE.den,BE.den,LE.den]at h⊢;revert h;(try simp only[and_imp]);intros)
  have nn:=(by assumption:ac 41 [ρ.i 20] [ρ.l 20])
  (try simp only[xN]at*)
  simp only[ac,nnL]at nn
  have b1:=nq (ρ.i 133)
  have b2:=nq (ρ.i 134)
  have b3:=nq (ρ.i 135)
  have b4:=Yq (ρ.i 136)
  have b5:=nq (ρ.i 137)
  have b6:=nq (ρ.i 138)
  refine vz (m:=ρ.i 205) (l:=ρ.l 205) (by assumption) (by omega) (by((try simp only[IntKind.wrap_i64,Int.ofNat_toNat]at*);omega)) (by assumption) ?_ (by omega) (by omega) (by omega) (by omega) (by omega) (by omega)
  have n1:=(dN (ρ.l 20 (ρ.i 204).toNat 0)).1
  have n2:0≤(IntKind.u8.wrap (ρ.l 20 (ρ.i 204).toNat 0)).tmod 3∧(IntKind.u8.wrap (ρ.l 20 (ρ.i 204).toNat 0)).tmod 3<3:=⟨Int.tmod_nonneg 3 n1,Int.tmod_lt_of_pos _ (by omega)⟩
  generalize (IntKind.u8.wrap (ρ.l 20 (ρ.i 204).toNat 0)).tmod 3=q at*
  simp(disch:=omega) only[cq]
  omega)
theorem UV:ab [([eql 208 (wx (.add 204 (c 1))),leq (c 0) 204,leq 204 (c 3),fb (ix (lx 204 (.nat 20)) (lx 204 (c 3)) (.lit false))],leq 208 (c 3))]:=va4
theorem UW:ab [([rx 48 [205] [205],eql 205 204,leq (c 0) 204,leq 204 (c 3),eql (.nat 205) (c 0),fb (nx (ix (lx 204 (.nat 20)) (lx 204 (c 3)) (.lit false))),rx 44 [20] [20],leq (c 0) 20,leq 20 (c 4611686018427387904)],rx 48 [(.add (.nat 205) (c 1))] [(ux (ux (ux (ux (ux (ux (ux 205 (.nat 205) 0 (c 2)) (.nat 205) 1 (.bits .and .i64 133 (c 63))) (.nat 205) 2 (.bits .and .i64 134 (c 63))) (.nat 205) 3 (.bits .and .i64 135 (c 63))) (.nat 205) 4 (.bits .and .i64 136 (c 15))) (.nat 205) 5 (.bits .and .i64 137 (c 63))) (.nat 205) 6 (.bits .and .i64 138 (c 63)))])]:=by
 repeat' (first|exact .nil|refine au ?_ ?_)
 all_goals(
  intro ρ;(intro h;simp only[vS,IE.den,BE.den,LE.den]at h⊢;revert h;(try simp only[and_imp]);intros)
  have nn:=(by assumption:ac 41 [ρ.i 20] [ρ.l 20])
  (try simp only[xN]at*)
  simp only[ac,nnL]at nn
  have b1:=nq (ρ.i 133)
  have b2:=nq (ρ.i 134)
  have b3:=nq (ρ.i 135)
  have b4:=Yq (ρ.i 136)
  have b5:=nq (ρ.i 137)
  have b6:=nq (ρ.i 138)
  refine vz (m:=ρ.i 205) (l:=ρ.l 205) (by assumption) (by omega) (by((try simp only[IntKind.wrap_i64,Int.ofNat_toNat]at*);omega)) rfl ?_ (by omega) (by omega) (by omega) (by omega) (by omega) (by omega)
  omega)
theorem UX:ab [([rx 44 [20] [20],leq (c 0) 121,leq 121 (c 255),leq (c 0) 122,leq 122 (c 255),leq (c 0) 124,leq 124 (c 255),leq (c 0) 125,leq 125 (c 255),leq (c 0) 126,leq 126 (c 255),leq (c 0) 127,leq 127 (c 255),leq (c 0) 128,leq 128 (c 255),leq (c 0) 129,leq 129 (c 255),leq (c 0) 130,leq 130 (c 255),leq (c 0) 131,leq 131 (c 255),leq (c 0) 132,leq 132 (c 65535),leq (c 0) 20,leq 20 (c 4611686018427387904),eql 5209 5208,leq (c 0) 5208,leq 5208 5207,rx 49 [(.add (.nat 205) (c 1)),5207] [(ux (ux (ux (ux (ux (ux (ux 205 (.nat 205) 0 (c 2)) (.nat 205) 1 (.bits .and .i64 133 (c 63))) (.nat 205) 2 (.bits .and .i64 134 (c 63))) (.nat 205) 3 (.bits .and .i64 135 (c 63))) (.nat 205) 4 (.bits .and .i64 136 (c 15))) (.nat 205) 5 (.bits .and .i64 137 (c 63))) (.nat 205) 6 (.bits .and .i64 138 (c 63)))],leq (c 0) 5207,leq 5207 (c 64),rx 48 [205] [205],eql 205 204,leq (c 0) 204,leq 204 (c 3),fb (nx (lx 5208 5207)),eql (.nat 205) (c 0),fb (nx (ix (lx 204 (.nat 20)) (lx 204 (c 3)) (.lit false)))],rx 16 [(wx (.add (wx (.rem 121 (c 6))) (c 2))),(.rem (wx 122) (wx (.add (wx (.rem 121 (c 6))) (c 2)))),(wx (.add (wx (.rem 124 (c 8))) (c 1))),(wx (.add (wx (.rem 125 (c 4))) (c 1))),(wx (.add (wx (.rem 126 (c 5))) (c 1))),(wx (.add (wx (.rem 127 (c 6))) (c 1))),(wx (.add (wx (.rem 128 (c 5))) (c 1))),(wx (.rem 129 (c 5))),(wx (.add (wx (.rem 130 (c 20))) (c 1))),(wx (.rem 131 (c 5))),(wx (.rem 132 (c 200))),(c 0),(.add (.nat 205) (c 1)),(.add (.nat 205) (c 1)),5209] []),
([rx 44 [20] [20],leq (c 0) 121,leq 121 (c 255),leq (c 0) 122,leq 122 (c 255),leq (c 0) 124,leq 124 (c 255),leq (c 0) 125,leq 125 (c 255),leq (c 0) 126,leq 126 (c 255),leq (c 0) 127,leq 127 (c 255),leq (c 0) 128,leq 128 (c 255),leq (c 0) 129,leq 129 (c 255),leq (c 0) 130,leq 130 (c 255),leq (c 0) 131,leq 131 (c 255),leq (c 0) 132,leq 132 (c 65535),leq (c 0) 20,leq 20 (c 4611686018427387904),eql 10211 10210,leq (c 0) 10210,leq 10210 10209,rx 49 [205,10209] [205],leq (c 0) 10209,leq 10209 (c 64),rx 48 [205] [205],eql 205 204,leq (c 0) 204,leq 204 (c 3),fb (nx (lx 10210 10209)),fb (nx (ex (.nat 205) (c 0))),fb (nx (ix (lx 204 (.nat 20)) (lx 204 (c 3)) (.lit false)))],rx 16 [(wx (.add (wx (.rem 121 (c 6))) (c 2))),(.rem (wx 122) (wx (.add (wx (.rem 121 (c 6))) (c 2)))),(wx (.add (wx (.rem 124 (c 8))) (c 1))),(wx (.add (wx (.rem 125 (c 4))) (c 1))),(wx (.add (wx (.rem 126 (c 5))) (c 1))),(wx (.add (wx (.rem 127 (c 6))) (c 1))),(wx (.add (wx (.rem 128 (c 5))) (c 1))),(wx (.rem 129 (c 5))),(wx (.add (wx (.rem 130 (c 20))) (c 1))),(wx (.rem 131 (c 5))),(wx (.rem 132 (c 200))),(c 0),205,205,10211] [])]:=by
  repeat' (first|exact .nil|refine au ?_ ?_)
  all_goals(
   intro ρ;(intro h;simp only[vS,IE.den,BE.den,LE.den]at h⊢;revert h;(try simp only[and_imp]);intros)
   simp only[ac,aV]
   have t:∀x m:Int,0≤x→0<m→0≤x.tmod m∧x.tmod m<m:=fun x m h h'=>⟨Int.tmod_nonneg m h,Int.tmod_lt_of_pos x h'⟩
   have a1:=t (ρ.i 121) 6 (by assumption) (by omega)
   have a4:=t (ρ.i 124) 8 (by assumption) (by omega)
   have a5:=t (ρ.i 125) 4 (by assumption) (by omega)
   have a6:=t (ρ.i 126) 5 (by assumption) (by omega)
   have a7:=t (ρ.i 127) 6 (by assumption) (by omega)
   have a8:=t (ρ.i 128) 5 (by assumption) (by omega)
   have a9:=t (ρ.i 129) 5 (by assumption) (by omega)
   have b0:=t (ρ.i 130) 20 (by assumption) (by omega)
   have b1:=t (ρ.i 131) 5 (by assumption) (by omega)
   have b2:=t (ρ.i 132) 200 (by assumption) (by omega)
   generalize (ρ.i 121).tmod 6=f at*
   generalize (ρ.i 124).tmod 8=f4 at*
   generalize (ρ.i 125).tmod 4=f5 at*
   generalize (ρ.i 126).tmod 5=f6 at*
   generalize (ρ.i 127).tmod 6=f7 at*
   generalize (ρ.i 128).tmod 5=f8 at*
   generalize (ρ.i 129).tmod 5=f9 at*
   generalize (ρ.i 130).tmod 20=g0 at*
   generalize (ρ.i 131).tmod 5=g1 at*
   generalize (ρ.i 132).tmod 200=g2 at*
   simp(disch:=omega) only[cq]
   have hh:=t (ρ.i 122) (f+2) (by assumption) (by omega)
   simp only[true_and]
   omega)
theorem UZ:ad5.ok Tryz.prog:=ao (.cons mC .nil) HL (a5t UP (a5t UQ (a5t UR (a5t US (a5t UT (a5t UU (a5t UV (a5t UW UX)))))))) [3,4,5,6,7,2,42,43,8,9,44,45,10,11,46,12,9,47,14,15,16,17,18,19,20,21,22,23,24,25,26,27,28,29,30,31,32,33,34,35,36,37,47,14,15,21,39,48,2,26,27,33,41,49] (by kernel_rfl)
theorem a9v:ab [([eql 200 (c 0)],rx 52 [200] [22])]:=by
 repeat' (first|exact .nil|refine au ?_ ?_)
 all_goals(
  intro ρ h;simp only[vS,IE.den,BE.den,LE.den]at h⊢
  have h0:=h
  try simp only[IntKind.wrap_i64]at*
  intro a ha
  try simp only[aC,fR,xh,XE,ae]at⊢
  grind)
theorem a9w:ab [([eql 200 (c 0)],leq (c 0) 200),
([eql 200 (c 0)],leq 200 (.nat 21)),
([leq (c 0) 200,lss 200 (.nat 21)],lss 200 21),
([eql 202 (wx (.add 200 (c 1))),lss 200 (.nat 21),leq 21 (c 4611686018427387904)],lss (.nat (.sub (.nat 21) 202)) (.nat (.sub (.nat 21) 200))),
([eql 202 (wx (.add 200 (c 1))),leq (c 0) 200,leq 200 (.nat 21),leq 21 (c 4611686018427387904)],leq (c 0) 202),
([eql 202 (wx (.add 200 (c 1))),leq (c 0) 200,lss 200 (.nat 21)],leq 202 (.nat 21)),
([],.imp (jx (.nat 21) (c 250)) (leq 21 (c 250)))]:=dS
theorem a9x:ab [([eql 202 (wx (.add 200 (c 1))),rx 52 [200] [22],leq (c 0) 200,fb (nx (.cmp .gtr (.nat (gx 22 200 0)) (c 6))),lss 200 (.nat 21),leq 21 (c 4611686018427387904)],rx 52 [202] [22])]:=va4
theorem a9y:ab [([],.imp (.lit false) (leq 21 (c 250)))]:=s8
theorem akp:ab [([],.imp (.lit false) (rx 52 [21] [22]))]:=by
 repeat' (first|exact .nil|refine au ?_ ?_)
 all_goals(
  intro ρ h;simp only[vS,IE.den,BE.den,LE.den]at h⊢
  try simp only[IntKind.wrap_i64]at*
  intro hc
  intro a ha
  try simp only[aC,fR,xh,XE,ae]at⊢
  grind)
theorem akq:ab [([rx 52 [200] [22],fb (nx (lx 200 (.nat 21)))],.imp (jx (.nat 21) (c 250)) (rx 52 [21] [22]))]:=kj
theorem a9z:ahe.ok Tryz.prog:=ao aS.nil HL (a5t a9v (a5t a9w (a5t a9x (a5t a9y (a5t akp akq))))) [3,4,5,2,2,0,2,6,7,11,8,9,12,13,10,14] (by kernel_rfl)
def k1(i:Int):SV:=.int .i64 (c i)
def an(i m:Int):IE:=.bits .and .i64 (c i) (c m)
def L5:LE:=.upd (.upd (.upd (.upd (.upd (.upd (.upd (.var 0) (c 0) 0 (c 2)) (c 0) 1 (an 0 63)) (c 0) 2 (an 0 63)) (c 0) 3 (an 0 63)) (c 0) 4 (an 0 15)) (c 0) 5 (an 0 63)) (c 0) 6 (an 0 63)
def L6:LE:=.upd (.upd (.var 0) (c 0) 0 (c 0)) (c 1) 0 (c 1)
def adp(l:Nat)(o:Bool:=false):aO×aY:=(.h l,.row o (.lst 56 vg (c 1) L5))
def adq(l:Nat)(o:Bool:=false):aO×aY:=(.h l,.row o (.lst 3 [ki] (c 2) L6))
def a5g(a b:Nat):SV:=.agg [.lst a,k1 2,k1 0,.lst b,k1 1,k1 1,k1 1,k1 2,k1 1,k1 0,k1 1,k1 0,k1 0]
def Wp(i:Int):SV:=.int .u8 (c i)
def aa0:bg:={f:=8,M:=200,args:=[.agg ([.sl (.at 1 0) (c 1) (c 1)]++[Wp 0,Wp 0,Wp 0,Wp 0,Wp 0,Wp 0,Wp 1,Wp 0,Wp 0,Wp 0,Wp 0,.int .u16 (c 0)]++List.replicate 6 (k1 0))],H0:=[(.h 1,.row true (.cells 5 [Wp 1]))],pre:=[],N:=210,t:=.lf ⟨[],[],a5g 205 206,[adp 205 true,adq 206 true]⟩}
def a5h:bg:={f:=19,M:=200,args:=[a5g 5 6],H0:=[adp 5,adq 6],pre:=[],N:=202,t:=.lf ⟨[.be (.var 201)],[],.b (.var 201),[]⟩}
def Lv:List SV:=[.lst 205,k1 2,k1 0,.lst 206,k1 1,k1 1,k1 1,k1 2,k1 1,k1 0,k1 1,k1 0,k1 0,.lst 207,.lst 208,.int .i64 (c 1),i0,i0,i0,i0,i0,i0,i0,i0,i0,i0,i0,i0,.b (.lit true),i0,i0,i0,i0,.lst 209,i0,i0,i0,.lst 210,.lst 211,.lst 212,i0,.lst 213,.b (.lit false),.int .i64 (c (-1)),i0,.int .u32 (c 0),.lst 214,i0,i0,.ptr (.at 204 0),.lst 215]
def adr:bg:={f:=9,M:=200,args:=[a5g 5 6],H0:=[adp 5,adq 6],pre:=[],N:=300,t:=.lf ⟨[eql (v 208) (c 2),eql (v 207) (c 1),eql (v 205) (c 1),eql (v 206) (c 2),.rel ou [v 205] [.var 205],.rel un [v 208,c 2,c 1,c 1,c 0,v 207,c 0,c 0,c 1] [.var 202],.rel tG [v 207] [.var 203],eql (v 209) (c 0),eql (v 210) (c 0),eql (v 211) (c 0),eql (v 212) (c 0),eql (v 213) (c 0),eql (v 215) (c 0),leq (c 0) (v 214),leq (v 214) (c 64)],[],.tup [.ptr (.at 201 0),k1 0],[(.h 201,.row true (.cells 88 Lv)),bJ 89 [.ptr 203] 207 207,bJ 91 [.ptr 202] 208 208,(.h 202,.row true (.fam 102 CT (v 208) (.var 202))),(.h 203,.row true (.fam 134 lu (v 207) (.var 203))),(.h 204,.row true (.cells 121 [i0,i0,i0])),bJ 56 vg 205 205,bJ 3 [ki] 206 206,bx 209 209,bx 210 210,bA 211 211,bA 212 212,bA 213 213,cI 214 214,bJ 3 [ki] 215 215]⟩}
def OC(n:Nat)(k:Int)(l:List BE):BE:=.ite (fe (v n) (c k)) (nP l) (.lit true)
def GM:cj:=fun f r b=>
 bif Nat.beq f 6&&Nat.beq r 8 then some {items:=fun b=> .ri 5::xr b (eu b 2),inv:=xt b (eu b 2) 1++co (c 40)++
  [.be fun n=>OC n 0 [is (n+32) 0,B (n+13),is (n+14) 0,is (n+1) 1],
   .be fun n=>OC n 1 [is (n+32) 0,B (n+13),is (n+14) 1,is (n+1) 1],
   .be fun n=>OC n 2 [is (n+32) 1,nB (n+13),is (n+1) 0,is (n+2) 2,is (n+3) 1],
   .be fun n=>OC n 3 [is (n+32) 1,nB (n+13),is (n+1) 2],
   .be fun n=> .ite (.cmp .leq (c 4) (v n)) (nP [is (n+32) 2,nB (n+13),is (n+1) 2]) (.lit true)],mes:=fun n=> .sub (c 40) (v n)}
 else bif Nat.beq f 9&&Nat.beq r 12 then some {items:=fun b=>[.ri 54,.gf (eu b 4) 14 91 102 CT,.gl (eu b 4) 14 91],inv:=[.be fun n=> .cmp .eql (v (n+2)) (v n),
  .rel un (fun n=>[v (n+2),vf b (eu b 4) 1,vf b (eu b 4) 4,vf b (eu b 4) 5,vf b (eu b 4) 12,lr b (nl b (eu b 4) 13),vf b (eu b 4) 2,c 0,c 1]) (fun n=>[.var (n+1)])]++co (bu b 53),mes:=fun n=> .sub (bu b 53) (v n)}
 else bif Nat.beq f 9&&Nat.beq r 7 then xq f r b
 else none
theorem Lw:aa0.ok Tryz.prog:=ao aS.nil gK .nil [0,0,0,0,0,0,0,0,0,0,0] (by kernel_rfl)
theorem GN:ab [([],fb (ix (.cmp .geq (.ite (nx (ix (ix (ix (ix (ix (ix (.cmp .geq (.bits .and .i64 (c 0) (c 63)) (c 0)) (jx (.bits .and .i64 (c 0) (c 63)) (c 1000)) (.lit false)) (ix (.cmp .geq (.bits .and .i64 (c 0) (c 63)) (c 0)) (jx (.bits .and .i64 (c 0) (c 63)) (c 1000)) (.lit false)) (.lit false)) (ix (.cmp .geq (.bits .and .i64 (c 0) (c 63)) (c 0)) (jx (.bits .and .i64 (c 0) (c 63)) (c 1000)) (.lit false)) (.lit false)) (ix (.cmp .geq (.bits .and .i64 (c 0) (c 63)) (c 0)) (jx (.bits .and .i64 (c 0) (c 63)) (c 1000)) (.lit false)) (.lit false)) (ix (.cmp .geq (.bits .and .i64 (c 0) (c 15)) (c 0)) (jx (.bits .and .i64 (c 0) (c 15)) (c 100)) (.lit false)) (.lit false)) (ix (.cmp .geq (.bits .and .i64 (c 0) (c 63)) (c 0)) (jx (.bits .and .i64 (c 0) (c 63)) (c 64)) (.lit false)) (.lit false))) (c 0) (c (-1))) (c 0)) (.lit false) (.lit true)))]:=by
 repeat' (first|exact .nil|refine au ?_ ?_)
 all_goals(
  intro ρ _;show BE.den ρ _=true;kernel_rfl)
theorem GO:a5h.ok Tryz.prog:=ao aS.nil gK GN [0,0,0,0,0,0,0,0,0,0,0,0,0,0,0,0,0,0,0,0,0,0,0,0,0,0,0,0,0,0,0,0,0,0,0,0,0,0,0,0,3] (by kernel_rfl)
theorem V0:ab [([eql 204 (c 1),rx 3 [(c 1)] [204,(ux (ux (ux (ux (ux (ux (ux 0 (c 0) 0 (c 2)) (c 0) 1 (.bits .and .i64 (c 0) (c 63))) (c 0) 2 (.bits .and .i64 (c 0) (c 63))) (c 0) 3 (.bits .and .i64 (c 0) (c 63))) (c 0) 4 (.bits .and .i64 (c 0) (c 15))) (c 0) 5 (.bits .and .i64 (c 0) (c 63))) (c 0) 6 (.bits .and .i64 (c 0) (c 63)))],rx 3 [(c 2)] [203,(ux (ux 0 (c 0) 0 (c 0)) (c 1) 0 (c 1))]],rx 48 [204] [204])]:=by
 repeat' (first|exact .nil|refine au ?_ ?_)
 all_goals(
  intro ρ;(intro h;simp only[vS,IE.den,BE.den,LE.den]at h⊢;revert h;(try simp only[and_imp]);intros)
  have s:=(by assumption:ac 0 [1] [ρ.l 204,_])
  have h204:=(by assumption:ρ.i 204=1)
  simp only[ac,eT,ae,show aQ .and .i64 0 63=0 from rfl,show aQ .and .i64 0 15=0 from rfl]at s
  have s0:=s 0 0 (by omega)
  have s1:=s 0 1 (by omega)
  have s2:=s 0 2 (by omega)
  have s3:=s 0 3 (by omega)
  have s4:=s 0 4 (by omega)
  have s5:=s 0 5 (by omega)
  have s6:=s 0 6 (by omega)
  clear s
  simp at s0 s1 s2 s3 s4 s5 s6
  simp only[ac,dH]
  intro a ha
  obtain rfl:a=0:=by omega
  omega)
theorem V1:ab [([eql 204 (c 1)],leq (c 0) 204),
([eql 204 (c 1)],leq 204 (c 8)),
([eql 226 (c 0),eql 228 (c 0)],eql 228 226),
([eql 226 (c 0)],leq (c 0) 226),
([eql 226 (c 0)],leq 226 (.nat 204)),
([eql 228 226,eql 204 (c 1),lss 226 (.nat 204)],leq (.add 228 (c 1)) (c 4294967296)),
([eql 228 226,leq (c 0) 226],leq (c 0) 228),
([],eql 228 228),
([eql 235 (wx (.add 226 (c 1))),eql 204 (c 1),lss 226 (.nat 204)],lss (.nat (.sub (.nat 204) 235)) (.nat (.sub (.nat 204) 226))),
([eql 235 (wx (.add 226 (c 1))),eql 237 (.add 228 (c 1)),eql 228 226,leq (c 0) 226,leq 226 (.nat 204),eql 204 (c 1)],eql 237 235),
([eql 235 (wx (.add 226 (c 1))),leq (c 0) 226,leq 226 (.nat 204),eql 204 (c 1)],leq (c 0) 235),
([eql 235 (wx (.add 226 (c 1))),leq (c 0) 226,lss 226 (.nat 204)],leq 235 (.nat 204)),
([eql 5228 (c 0),eql 5230 (c 0)],eql 5230 5228),
([eql 5228 (c 0)],leq (c 0) 5228),
([eql 5228 (c 0),leq (c 0) 5227],leq 5228 5227),
([leq 5227 (c 64),lss 5228 5227],leq 5228 (c 64)),
([eql 5230 5228,leq 5228 5227,leq 5227 (c 64)],leq (.add 5230 (c 1)) (c 4294967296)),
([eql 5230 5228,leq (c 0) 5228],leq (c 0) 5230),
([],eql 5230 5230),
([eql 5237 (wx (.add 5228 (c 1))),leq 5227 (c 64),lss 5228 5227],lss (.nat (.sub 5227 5237)) (.nat (.sub 5227 5228))),
([eql 5237 (wx (.add 5228 (c 1))),eql 5239 (.add 5230 (c 1)),eql 5230 5228,leq (c 0) 5228,leq 5228 5227,leq 5227 (c 64)],eql 5239 5237),
([eql 5237 (wx (.add 5228 (c 1))),leq (c 0) 5228,leq 5227 (c 64),lss 5228 5227],leq (c 0) 5237),
([eql 5237 (wx (.add 5228 (c 1))),leq (c 0) 5228,lss 5228 5227],leq 5237 5227),
([eql 228 226,leq 226 (.nat 204),eql 204 (c 1),fb (nx (lx 226 (.nat 204)))],eql 228 (c 1))]:=dS
theorem V2:ab [([eql 228 (c 0)],rx 18 [228] [227])]:=by
 repeat' (first|exact .nil|refine au ?_ ?_)
 all_goals(
  intro ρ h;simp only[vS,IE.den,BE.den,LE.den]at h⊢
  have h0:=h
  try simp only[IntKind.wrap_i64]at*
  intro a ha
  try simp only[aC,fR,xh,XE,ae]at⊢
  grind)
theorem V3:ab [([eql 228 226,rx 18 [228] [227],leq (c 0) 226,leq 226 (.nat 204),rx 49 [204,208] [204],leq (c 0) 208,leq 208 (c 64),eql 204 (c 1),rx 3 [(c 1)] [204,(ux (ux (ux (ux (ux (ux (ux 0 (c 0) 0 (c 2)) (c 0) 1 (.bits .and .i64 (c 0) (c 63))) (c 0) 2 (.bits .and .i64 (c 0) (c 63))) (c 0) 3 (.bits .and .i64 (c 0) (c 63))) (c 0) 4 (.bits .and .i64 (c 0) (c 15))) (c 0) 5 (.bits .and .i64 (c 0) (c 63))) (c 0) 6 (.bits .and .i64 (c 0) (c 63)))],rx 3 [(c 2)] [203,(ux (ux 0 (c 0) 0 (c 0)) (c 1) 0 (c 1))],lss 226 (.nat 204)],leq (c 0) (gx 204 226 1)),
([eql 228 226,rx 18 [228] [227],leq (c 0) 226,leq 226 (.nat 204),rx 49 [204,208] [204],leq (c 0) 208,leq 208 (c 64),eql 204 (c 1),rx 3 [(c 1)] [204,(ux (ux (ux (ux (ux (ux (ux 0 (c 0) 0 (c 2)) (c 0) 1 (.bits .and .i64 (c 0) (c 63))) (c 0) 2 (.bits .and .i64 (c 0) (c 63))) (c 0) 3 (.bits .and .i64 (c 0) (c 63))) (c 0) 4 (.bits .and .i64 (c 0) (c 15))) (c 0) 5 (.bits .and .i64 (c 0) (c 63))) (c 0) 6 (.bits .and .i64 (c 0) (c 63)))],rx 3 [(c 2)] [203,(ux (ux 0 (c 0) 0 (c 0)) (c 1) 0 (c 1))],lss 226 (.nat 204)],leq (gx 204 226 1) (c 1000)),
([eql 228 226,rx 18 [228] [227],leq (c 0) 226,leq 226 (.nat 204),rx 49 [204,208] [204],leq (c 0) 208,leq 208 (c 64),eql 204 (c 1),rx 3 [(c 1)] [204,(ux (ux (ux (ux (ux (ux (ux 0 (c 0) 0 (c 2)) (c 0) 1 (.bits .and .i64 (c 0) (c 63))) (c 0) 2 (.bits .and .i64 (c 0) (c 63))) (c 0) 3 (.bits .and .i64 (c 0) (c 63))) (c 0) 4 (.bits .and .i64 (c 0) (c 15))) (c 0) 5 (.bits .and .i64 (c 0) (c 63))) (c 0) 6 (.bits .and .i64 (c 0) (c 63)))],rx 3 [(c 2)] [203,(ux (ux 0 (c 0) 0 (c 0)) (c 1) 0 (c 1))],lss 226 (.nat 204)],leq (c 0) (gx 204 226 2)),
([eql 228 226,rx 18 [228] [227],leq (c 0) 226,leq 226 (.nat 204),rx 49 [204,208] [204],leq (c 0) 208,leq 208 (c 64),eql 204 (c 1),rx 3 [(c 1)] [204,(ux (ux (ux (ux (ux (ux (ux 0 (c 0) 0 (c 2)) (c 0) 1 (.bits .and .i64 (c 0) (c 63))) (c 0) 2 (.bits .and .i64 (c 0) (c 63))) (c 0) 3 (.bits .and .i64 (c 0) (c 63))) (c 0) 4 (.bits .and .i64 (c 0) (c 15))) (c 0) 5 (.bits .and .i64 (c 0) (c 63))) (c 0) 6 (.bits .and .i64 (c 0) (c 63)))],rx 3 [(c 2)] [203,(ux (ux 0 (c 0) 0 (c 0)) (c 1) 0 (c 1))],lss 226 (.nat 204)],leq (gx 204 226 2) (c 1000)),
([eql 228 226,rx 18 [228] [227],leq (c 0) 226,leq 226 (.nat 204),rx 49 [204,208] [204],leq (c 0) 208,leq 208 (c 64),eql 204 (c 1),rx 3 [(c 1)] [204,(ux (ux (ux (ux (ux (ux (ux 0 (c 0) 0 (c 2)) (c 0) 1 (.bits .and .i64 (c 0) (c 63))) (c 0) 2 (.bits .and .i64 (c 0) (c 63))) (c 0) 3 (.bits .and .i64 (c 0) (c 63))) (c 0) 4 (.bits .and .i64 (c 0) (c 15))) (c 0) 5 (.bits .and .i64 (c 0) (c 63))) (c 0) 6 (.bits .and .i64 (c 0) (c 63)))],rx 3 [(c 2)] [203,(ux (ux 0 (c 0) 0 (c 0)) (c 1) 0 (c 1))],lss 226 (.nat 204)],leq (c 0) (gx 204 226 3)),
([eql 228 226,rx 18 [228] [227],leq (c 0) 226,leq 226 (.nat 204),rx 49 [204,208] [204],leq (c 0) 208,leq 208 (c 64),eql 204 (c 1),rx 3 [(c 1)] [204,(ux (ux (ux (ux (ux (ux (ux 0 (c 0) 0 (c 2)) (c 0) 1 (.bits .and .i64 (c 0) (c 63))) (c 0) 2 (.bits .and .i64 (c 0) (c 63))) (c 0) 3 (.bits .and .i64 (c 0) (c 63))) (c 0) 4 (.bits .and .i64 (c 0) (c 15))) (c 0) 5 (.bits .and .i64 (c 0) (c 63))) (c 0) 6 (.bits .and .i64 (c 0) (c 63)))],rx 3 [(c 2)] [203,(ux (ux 0 (c 0) 0 (c 0)) (c 1) 0 (c 1))],lss 226 (.nat 204)],leq (gx 204 226 3) (c 1000)),
([eql 228 226,rx 18 [228] [227],leq (c 0) 226,leq 226 (.nat 204),rx 49 [204,208] [204],leq (c 0) 208,leq 208 (c 64),eql 204 (c 1),rx 3 [(c 1)] [204,(ux (ux (ux (ux (ux (ux (ux 0 (c 0) 0 (c 2)) (c 0) 1 (.bits .and .i64 (c 0) (c 63))) (c 0) 2 (.bits .and .i64 (c 0) (c 63))) (c 0) 3 (.bits .and .i64 (c 0) (c 63))) (c 0) 4 (.bits .and .i64 (c 0) (c 15))) (c 0) 5 (.bits .and .i64 (c 0) (c 63))) (c 0) 6 (.bits .and .i64 (c 0) (c 63)))],rx 3 [(c 2)] [203,(ux (ux 0 (c 0) 0 (c 0)) (c 1) 0 (c 1))],lss 226 (.nat 204)],leq (c 0) (gx 204 226 4)),
([eql 228 226,rx 18 [228] [227],leq (c 0) 226,leq 226 (.nat 204),rx 49 [204,208] [204],leq (c 0) 208,leq 208 (c 64),eql 204 (c 1),rx 3 [(c 1)] [204,(ux (ux (ux (ux (ux (ux (ux 0 (c 0) 0 (c 2)) (c 0) 1 (.bits .and .i64 (c 0) (c 63))) (c 0) 2 (.bits .and .i64 (c 0) (c 63))) (c 0) 3 (.bits .and .i64 (c 0) (c 63))) (c 0) 4 (.bits .and .i64 (c 0) (c 15))) (c 0) 5 (.bits .and .i64 (c 0) (c 63))) (c 0) 6 (.bits .and .i64 (c 0) (c 63)))],rx 3 [(c 2)] [203,(ux (ux 0 (c 0) 0 (c 0)) (c 1) 0 (c 1))],lss 226 (.nat 204)],leq (gx 204 226 4) (c 100)),
([eql 228 226,rx 18 [228] [227],leq (c 0) 226,leq 226 (.nat 204),rx 49 [204,208] [204],leq (c 0) 208,leq 208 (c 64),eql 204 (c 1),rx 3 [(c 1)] [204,(ux (ux (ux (ux (ux (ux (ux 0 (c 0) 0 (c 2)) (c 0) 1 (.bits .and .i64 (c 0) (c 63))) (c 0) 2 (.bits .and .i64 (c 0) (c 63))) (c 0) 3 (.bits .and .i64 (c 0) (c 63))) (c 0) 4 (.bits .and .i64 (c 0) (c 15))) (c 0) 5 (.bits .and .i64 (c 0) (c 63))) (c 0) 6 (.bits .and .i64 (c 0) (c 63)))],rx 3 [(c 2)] [203,(ux (ux 0 (c 0) 0 (c 0)) (c 1) 0 (c 1))],lss 226 (.nat 204)],leq (c 0) (gx 204 226 5)),
([eql 228 226,rx 18 [228] [227],leq (c 0) 226,leq 226 (.nat 204),rx 49 [204,208] [204],leq (c 0) 208,leq 208 (c 64),eql 204 (c 1),rx 3 [(c 1)] [204,(ux (ux (ux (ux (ux (ux (ux 0 (c 0) 0 (c 2)) (c 0) 1 (.bits .and .i64 (c 0) (c 63))) (c 0) 2 (.bits .and .i64 (c 0) (c 63))) (c 0) 3 (.bits .and .i64 (c 0) (c 63))) (c 0) 4 (.bits .and .i64 (c 0) (c 15))) (c 0) 5 (.bits .and .i64 (c 0) (c 63))) (c 0) 6 (.bits .and .i64 (c 0) (c 63)))],rx 3 [(c 2)] [203,(ux (ux 0 (c 0) 0 (c 0)) (c 1) 0 (c 1))],lss 226 (.nat 204)],leq (gx 204 226 5) (c 1000)),
([eql 228 226,rx 18 [228] [227],leq (c 0) 226,leq 226 (.nat 204),rx 49 [204,208] [204],leq (c 0) 208,leq 208 (c 64),eql 204 (c 1),rx 3 [(c 1)] [204,(ux (ux (ux (ux (ux (ux (ux 0 (c 0) 0 (c 2)) (c 0) 1 (.bits .and .i64 (c 0) (c 63))) (c 0) 2 (.bits .and .i64 (c 0) (c 63))) (c 0) 3 (.bits .and .i64 (c 0) (c 63))) (c 0) 4 (.bits .and .i64 (c 0) (c 15))) (c 0) 5 (.bits .and .i64 (c 0) (c 63))) (c 0) 6 (.bits .and .i64 (c 0) (c 63)))],rx 3 [(c 2)] [203,(ux (ux 0 (c 0) 0 (c 0)) (c 1) 0 (c 1))],lss 226 (.nat 204)],leq (c 0) (gx 204 226 6)),
([eql 228 226,rx 18 [228] [227],leq (c 0) 226,leq 226 (.nat 204),rx 49 [204,208] [204],leq (c 0) 208,leq 208 (c 64),eql 204 (c 1),rx 3 [(c 1)] [204,(ux (ux (ux (ux (ux (ux (ux 0 (c 0) 0 (c 2)) (c 0) 1 (.bits .and .i64 (c 0) (c 63))) (c 0) 2 (.bits .and .i64 (c 0) (c 63))) (c 0) 3 (.bits .and .i64 (c 0) (c 63))) (c 0) 4 (.bits .and .i64 (c 0) (c 15))) (c 0) 5 (.bits .and .i64 (c 0) (c 63))) (c 0) 6 (.bits .and .i64 (c 0) (c 63)))],rx 3 [(c 2)] [203,(ux (ux 0 (c 0) 0 (c 0)) (c 1) 0 (c 1))],lss 226 (.nat 204)],leq (gx 204 226 6) (c 64))]:=by
  repeat' (first|exact .nil|refine au ?_ ?_)
  all_goals(
   intro ρ;(intro h;simp only[vS,IE.den,BE.den,LE.den]at h⊢;revert h;(try simp only[and_imp]);intros)
   have s:=(by assumption:ac 0 [1] [ρ.l 204,_])
   have h204:=(by assumption:ρ.i 204=1)
   simp only[ac,eT,ae,show aQ .and .i64 0 63=0 from rfl,show aQ .and .i64 0 15=0 from rfl]at s
   have s0:=s 0 0 (by omega)
   have s1:=s 0 1 (by omega)
   have s2:=s 0 2 (by omega)
   have s3:=s 0 3 (by omega)
   have s4:=s 0 4 (by omega)
   have s5:=s 0 5 (by omega)
   have s6:=s 0 6 (by omega)
   clear s
   simp at s0 s1 s2 s3 s4 s5 s6
   rw[show(ρ.i 226).toNat=0 by omega]
   omega)
theorem V4:ab [([rx 0 [] [236,(ux (ux (ux (ux (ux (ux (ux (ux (ux (ux (ux (ux (ux (ux (ux (ux (ux (ux (ux (ux (ux (ux (ux (ux (ux (ux (ux (ux (ux (ux (ux (ux (ux (ux (ux (ux (ux (ux (ux (ux (ux (ux (ux (ux (ux (ux (ux (ux (ux (ux (ux (ux (ux (ux (ux (ux (ux (ux (ux (ux (ux (ux (ux (ux (ux (ux (ux (ux (ux (ux (ux (ux (ux (ux (ux (ux (ux (ux (ux (ux (ux (ux (ux (ux (ux (ux (ux (ux (ux (ux (ux (ux (ux (ux (ux (ux (ux (ux (ux (ux (ux (ux (ux (ux (ux (ux (ux (ux (ux (ux (ux (ux (ux (ux (ux (ux (ux (ux (ux (ux (ux (ux (ux (ux (ux (ux (ux (ux (ux (ux (ux (ux (ux (ux (ux (ux (ux (ux (ux (ux (ux 227 228 0 (gx 204 226 1)) 228 1 (gx 204 226 2)) 228 2 (gx 204 226 3)) 228 3 (gx 204 226 4)) 228 4 (gx 204 226 5)) 228 5 (gx 204 226 6)) 228 6 (c 0)) 228 7 (c 0)) 228 8 (c 0)) 228 9 (c 0)) 228 10 (c 0)) 228 11 (c 0)) 228 12 (c 0)) 228 13 (c 0)) 228 14 (c 0)) 228 15 (c 0)) 228 16 (c 0)) 228 17 (c 0)) 228 18 (c 0)) 228 19 (c 0)) 228 20 (c 0)) 228 21 (c 0)) 228 22 (c 0)) 228 23 (c 0)) 228 24 (c 0)) 228 25 (c 0)) 228 26 (c 0)) 228 27 (c 0)) 228 28 (c 0)) 228 29 (c 0)) 228 30 (c 0)) 228 31 (c 0)) 228 32 (c 0)) 228 33 (c 0)) 228 34 (c 0)) 228 35 (c 0)) 228 36 (c 0)) 228 37 (c 0)) 228 38 (c 0)) 228 39 (c 0)) 228 40 (c 0)) 228 41 (c 0)) 228 42 (c 0)) 228 43 (c 0)) 228 44 (c 0)) 228 45 (c 0)) 228 46 (c 0)) 228 47 (c 0)) 228 48 (c 0)) 228 49 (c 0)) 228 50 (c 0)) 228 51 (c 0)) 228 52 (c 0)) 228 53 (c 0)) 228 54 (c 0)) 228 55 (c 0)) 228 56 (c 0)) 228 57 (c 0)) 228 58 (c 0)) 228 59 (c 0)) 228 60 (c 0)) 228 61 (c 0)) 228 62 (c 0)) 228 63 (c 0)) 228 64 (c 0)) 228 65 (c 0)) 228 66 (c 0)) 228 67 (c 0)) 228 68 (c 0)) 228 69 (c 0)) 228 70 (c 0)) 228 71 (c 0)) 228 72 (c 0)) 228 73 (c 0)) 228 74 (c 0)) 228 75 (c 0)) 228 76 (c 0)) 228 77 (c 0)) 228 78 (c 0)) 228 79 (c 0)) 228 80 (c 0)) 228 81 (c 0)) 228 82 (c 0)) 228 83 (c 0)) 228 84 (c 0)) 228 85 (c 0)) 228 86 (c 0)) 228 87 (c 0)) 228 88 (c 0)) 228 89 (c 0)) 228 90 (c 0)) 228 91 (c 0)) 228 92 (c 0)) 228 93 (c 0)) 228 94 (c 0)) 228 95 (c 0)) 228 96 (c 0)) 228 97 (c 0)) 228 98 (c 0)) 228 99 (c 0)) 228 100 (c 0)) 228 101 (c 0)) 228 102 (c 0)) 228 103 (c 0)) 228 104 (c 0)) 228 105 (c 0)) 228 106 (c 0)) 228 107 (c 0)) 228 108 (c 0)) 228 109 (c 0)) 228 110 (c 0)) 228 111 (c 0)) 228 112 (c 0)) 228 113 (c 0)) 228 114 (c 0)) 228 115 (c 0)) 228 116 (c 0)) 228 117 (c 0)) 228 118 (c 0)) 228 119 (c 0)) 228 120 (c 0)) 228 121 (c 0)) 228 122 (c 0)) 228 123 (c 0)) 228 124 (c 0)) 228 125 (c 0)) 228 126 (c 0)) 228 127 (c 0)) 228 128 (c 0)) 228 129 (c 0)) 228 130 (c 0)) 228 131 (c 0)) 228 132 (c 0)) 228 133 (c 0)) 228 134 (c 0)) 228 135 (c 0)) 228 136 (c 0)) 228 137 (c 0)) 228 138 (c 0)) 228 139 (c 0)) 228 140 (c 0))],eql 237 (.add 228 (c 1)),rx 18 [228] [227]],rx 18 [237] [236])]:=qR
theorem V5:ab [([eql 5230 (c 0)],rx 12 [5230,(c 2),(c 1),(c 1),(c 0),228,(c 0),(c 0),(c 1)] [5229])]:=by
 repeat' (first|exact .nil|refine au ?_ ?_)
 all_goals(
  intro ρ h;simp only[vS,IE.den,BE.den,LE.den]at h⊢
  have h0:=h
  try simp only[IntKind.wrap_i64]at*
  refine⟨fun a ha=>?_,fun a b ha hb=>?_⟩
  ·try simp only[aC,fR,xh,XE,ae]at⊢
   grind
  ·try simp only[aC,fR,xh,XE,ae]at⊢
   grind)
theorem V6:ab [([eql 5230 5228,rx 12 [5230,(c 2),(c 1),(c 1),(c 0),228,(c 0),(c 0),(c 1)] [5229],leq (c 0) 5228,leq 5228 5227,rx 49 [204,5227] [204],leq (c 0) 5227,leq 5227 (c 64),eql 228 226,rx 18 [228] [227],leq (c 0) 226,leq 226 (.nat 204),rx 49 [204,208] [204],leq (c 0) 208,leq 208 (c 64),eql 204 (c 1),rx 3 [(c 1)] [204,(ux (ux (ux (ux (ux (ux (ux 0 (c 0) 0 (c 2)) (c 0) 1 (.bits .and .i64 (c 0) (c 63))) (c 0) 2 (.bits .and .i64 (c 0) (c 63))) (c 0) 3 (.bits .and .i64 (c 0) (c 63))) (c 0) 4 (.bits .and .i64 (c 0) (c 15))) (c 0) 5 (.bits .and .i64 (c 0) (c 63))) (c 0) 6 (.bits .and .i64 (c 0) (c 63)))],rx 3 [(c 2)] [203,(ux (ux 0 (c 0) 0 (c 0)) (c 1) 0 (c 1))],lss 5228 5227,fb (nx (lx 226 (.nat 204)))],rx 50 [(c 0),204,5228] [204])]:=by
 repeat' (first|exact .nil|refine au ?_ ?_)
 all_goals(
  intro ρ;(intro h;simp only[vS,IE.den,BE.den,LE.den]at h⊢;revert h;(try simp only[and_imp]);intros)
  exact vy (s:=ρ.i 5227) (by assumption) (by assumption) (by((try simp only[IntKind.wrap_i64,Int.ofNat_toNat]at*);omega)))
theorem V7:ab [([eql 5237 (wx (.add 5228 (c 1))),rx 0 [] [5238,(ux (ux (ux (ux (ux (ux (ux (ux (ux (ux (ux (ux (ux (ux (ux 5229 5230 0 (c 0)) 5230 1 (c 0)) 5230 2 (c 0)) 5230 3 (c 1)) 5230 4 (c 1)) 5230 5 (c 0)) 5230 6 (c 0)) 5230 7 (c 0)) 5230 8 (c 0)) 5230 9 (c 0)) 5230 10 (c 0)) 5230 11 (c (-1))) 5230 12 (.ite (.lit false) (c 1) (c 0))) 5230 13 (.ite (.lit false) (c 1) (c 0))) 5230 14 5232)],eql 5239 (.add 5230 (c 1)),leq (c 0) 5232,lss 5232 204,eql 5230 5228,rx 12 [5230,(c 2),(c 1),(c 1),(c 0),228,(c 0),(c 0),(c 1)] [5229],leq (c 0) 5228,leq 5228 5227,rx 49 [204,5227] [204],leq (c 0) 5227,leq 5227 (c 64),eql 228 226,rx 18 [228] [227],leq (c 0) 226,leq 226 (.nat 204),rx 49 [204,208] [204],leq (c 0) 208,leq 208 (c 64),eql 204 (c 1),rx 3 [(c 1)] [204,(ux (ux (ux (ux (ux (ux (ux 0 (c 0) 0 (c 2)) (c 0) 1 (.bits .and .i64 (c 0) (c 63))) (c 0) 2 (.bits .and .i64 (c 0) (c 63))) (c 0) 3 (.bits .and .i64 (c 0) (c 63))) (c 0) 4 (.bits .and .i64 (c 0) (c 15))) (c 0) 5 (.bits .and .i64 (c 0) (c 63))) (c 0) 6 (.bits .and .i64 (c 0) (c 63)))],rx 3 [(c 2)] [203,(ux (ux 0 (c 0) 0 (c 0)) (c 1) 0 (c 1))],lss 5228 5227,fb (nx (lx 226 (.nat 204)))],rx 12 [5239,(c 2),(c 1),(c 1),(c 0),228,(c 0),(c 0),(c 1)] [5238])]:=by
 repeat' (first|exact .nil|refine au ?_ ?_)
 all_goals(
  intro ρ;(intro h;simp only[vS,IE.den,BE.den,LE.den]at h⊢;revert h;(try simp only[and_imp]);intros)
  refine Oi (m:=ρ.i 5230) (l:=ρ.l 5229) (bk:=ρ.i 5232) (by assumption) (by assumption) (by((try simp only[IntKind.wrap_i64,Int.ofNat_toNat]at*);omega)) (by omega) (by omega) (by omega) (by omega) (by((try simp only[IntKind.wrap_i64,Int.ofNat_toNat]at*);omega)) ?_ ?_ ?_ ?_ ?_ ?_ ?_ ?_ ?_ ?_
  all_goals(rw[show ρ.l 5238=_ by assumption])
  ·intro a ha j
   simp only[ae,ha,false_and,if_false]
  all_goals simp[ae])
theorem V8:ab [([eql 5230 5228,rx 12 [5230,(c 2),(c 1),(c 1),(c 0),228,(c 0),(c 0),(c 1)] [5229],leq (c 0) 5228,leq 5228 5227,rx 49 [204,5227] [204],leq (c 0) 5227,leq 5227 (c 64),eql 228 226,rx 18 [228] [227],leq (c 0) 226,leq 226 (.nat 204),rx 49 [204,208] [204],leq (c 0) 208,leq 208 (c 64),eql 204 (c 1),rx 3 [(c 1)] [204,(ux (ux (ux (ux (ux (ux (ux 0 (c 0) 0 (c 2)) (c 0) 1 (.bits .and .i64 (c 0) (c 63))) (c 0) 2 (.bits .and .i64 (c 0) (c 63))) (c 0) 3 (.bits .and .i64 (c 0) (c 63))) (c 0) 4 (.bits .and .i64 (c 0) (c 15))) (c 0) 5 (.bits .and .i64 (c 0) (c 63))) (c 0) 6 (.bits .and .i64 (c 0) (c 63)))],rx 3 [(c 2)] [203,(ux (ux 0 (c 0) 0 (c 0)) (c 1) 0 (c 1))],fb (nx (lx 5228 5227)),fb (nx (lx 226 (.nat 204)))],eql 5230 (c 2))]:=by
 repeat' (first|exact .nil|refine au ?_ ?_)
 all_goals(
  intro ρ;(intro h;simp only[vS,IE.den,BE.den,LE.den]at h⊢;revert h;(try simp only[and_imp]);intros)
  have s:=(by assumption:ac 0 [1] [ρ.l 204,_])
  have h204:=(by assumption:ρ.i 204=1)
  simp only[ac,eT,ae,show aQ .and .i64 0 63=0 from rfl,show aQ .and .i64 0 15=0 from rfl]at s
  have s0:=s 0 0 (by omega)
  have s1:=s 0 1 (by omega)
  have s2:=s 0 2 (by omega)
  have s3:=s 0 3 (by omega)
  have s4:=s 0 4 (by omega)
  have s5:=s 0 5 (by omega)
  have s6:=s 0 6 (by omega)
  clear s
  simp at s0 s1 s2 s3 s4 s5 s6
  have q:=(by assumption:ac 46 [ρ.i 204,ρ.i 5227] [ρ.l 204])
  simp only[ac,kQ,h204]at q
  have q2:=q.2
  simp only[show(1:Int).toNat=0+1 from rfl,qO]at q2
  omega)
theorem Va:adr.ok Tryz.prog:=Nn (.cons GO (.cons mC (.cons GJ (.cons oC (.cons nr (.cons pR (.cons pS .nil))))))) GM (a5t V0 (a5t V1 (a5t V2 (a5t V3 (a5t V4 (a5t V5 (a5t V6 (a5t V7 V8)))))))) [3,4,5,6,28,7,8,2,2,0,29,30,31,32,33,34,35,36,37,38,39,40,9,10,11,12,13,41,14,15,3,4,5,16,42,17,18,3,4,5,43,19,20,21,22,23,24,44,25,26,1,45,27,2,2,3,2,2,0,0,0,0,0,0,2,2] (by kernel_rfl)
theorem amz:ab [([eql 220 (c 2)],leq (c 0) 220),
([eql 220 (c 2)],leq 220 (c 64)),
([eql 221 (c 0)],leq (c 0) 221),
([eql 221 (c 0)],leq 221 (c 1000000)),
([eql 221 (c 0)],.imp (.lit true) (eql 221 (c 0))),
([eql 222 (c 0)],leq (c 0) 222),
([eql 222 (c 0)],leq 222 (c 1000000)),
([eql 223 (c 0)],leq (c 0) 223),
([eql 223 (c 0)],leq 223 (c 1000000)),
([eql 224 (c 0)],leq (c 0) 224),
([eql 224 (c 0)],leq 224 (c 1000000)),
([eql 225 (c 0)],leq (c 0) 225),
([eql 225 (c 0)],leq 225 (c 1000000)),
([leq 226 (c 64)],leq 226 (c 1000000)),
([eql 580 321,eql 594 359,.imp (ex 359 (c 0)) (eql 321 (c 0))],fb (ix (ex 594 (c 0)) (ex 580 (c 0)) (.lit true))),
([eql 580 321,leq (c 0) 321],leq (c 0) 580),
([eql 580 321,leq 321 (c 1000000)],leq 580 (c 1000000)),
([eql 584 221,leq (c 0) 221],leq (c 0) 584),
([eql 584 221,leq 221 (c 1000000)],leq 584 (c 1000000)),
([eql 585 323,leq (c 0) 323],leq (c 0) 585),
([eql 585 323,leq 323 (c 1000000)],leq 585 (c 1000000)),
([eql 586 324,leq (c 0) 324],leq (c 0) 586),
([eql 586 324,leq 324 (c 1000000)],leq 586 (c 1000000)),
([eql 588 325,leq (c 0) 325],leq (c 0) 588),
([eql 588 325,leq 325 (c 1000000)],leq 588 (c 1000000)),
([eql 593 326,leq (c 0) 326],leq (c 0) 593),
([eql 593 326,leq 326 (c 1000000)],leq 593 (c 1000000)),
([eql 587 352,leq (c 0) 352],leq (c 0) 587),
([eql 587 352,leq 352 (c 1)],leq 587 (c 1)),
([eql 563 427,leq (c 0) 427],leq (c 0) 563),
([eql 563 427,leq 427 (c 2)],leq 563 (c 2)),
([eql 562 (c 0)],leq (c 0) 562),
([eql 562 (c 0)],leq 562 (c 40)),
([eql 562 (c 0)],fb (ix (ex 562 (c 1)) (ix (ex 594 (c 0)) (ix 575 (ix (ex 576 (c 1)) (ex 563 (c 1)) (.lit false)) (.lit false)) (.lit false)) (.lit true))),
([eql 562 (c 0)],fb (ix (ex 562 (c 2)) (ix (ex 594 (c 1)) (ix (nx 575) (ix (ex 563 (c 0)) (ix (ex 564 (c 2)) (ex 565 (c 1)) (.lit false)) (.lit false)) (.lit false)) (.lit false)) (.lit true))),
([eql 562 (c 0)],fb (ix (ex 562 (c 3)) (ix (ex 594 (c 1)) (ix (nx 575) (ex 563 (c 2)) (.lit false)) (.lit false)) (.lit true))),
([eql 562 (c 0)],fb (ix (jx (c 4) 562) (ix (ex 594 (c 2)) (ix (nx 575) (ex 563 (c 2)) (.lit false)) (.lit false)) (.lit true))),
([fb (ix (ex 594 (c 0)) (ex 580 (c 0)) (.lit true))],.imp (ex 594 (c 0)) (eql 580 (c 0))),
([eql 852 (wx (.add 562 (c 1))),lss 562 (c 40)],lss (.nat (.sub (c 40) 852)) (.nat (.sub (c 40) 562))),
([eql 870 611,leq (c 0) 611],leq (c 0) 870),
([eql 870 611,leq 611 (c 1000000)],leq 870 (c 1000000)),
([eql 874 580,leq (c 0) 580,leq (c 0) 580],leq (c 0) 874),
([eql 874 580,leq 580 (c 1000000),leq 580 (c 1000000)],leq 874 (c 1000000)),
([eql 875 613,leq (c 0) 613],leq (c 0) 875),
([eql 875 613,leq 613 (c 1000000)],leq 875 (c 1000000)),
([eql 876 614,leq (c 0) 614],leq (c 0) 876),
([eql 876 614,leq 614 (c 1000000)],leq 876 (c 1000000)),
([eql 878 615,leq (c 0) 615],leq (c 0) 878),
([eql 878 615,leq 615 (c 1000000)],leq 878 (c 1000000)),
([eql 883 616,leq (c 0) 616],leq (c 0) 883),
([eql 883 616,leq 616 (c 1000000)],leq 883 (c 1000000)),
([eql 877 642,leq (c 0) 642],leq (c 0) 877),
([eql 877 642,leq 642 (c 1)],leq 877 (c 1)),
([eql 853 717,leq (c 0) 717],leq (c 0) 853),
([eql 853 717,leq 717 (c 2)],leq 853 (c 2)),
([eql 852 (wx (.add 562 (c 1))),leq (c 0) 562,leq 562 (c 40)],leq (c 0) 852),
([eql 852 (wx (.add 562 (c 1))),leq (c 0) 562,lss 562 (c 40)],leq 852 (c 40)),
([eql 852 (wx (.add 562 (c 1))),leq (c 0) 562,leq 562 (c 40)],fb (ix (ex 852 (c 0)) (ix (ex 884 (c 0)) (ix 865 (ix (ex 866 (c 0)) (ex 853 (c 1)) (.lit false)) (.lit false)) (.lit false)) (.lit true)))]:=dS
theorem ajd:ab [([eql 220 (c 2),eql 219 (c 1),eql 217 (c 1),eql 218 (c 2)],rx 16 [(c 2),(c 0),(c 1),(c 1),(c 1),(c 2),(c 1),(c 0),(c 1),(c 0),(c 0),220,219,217,218] []),
([eql 220 (c 2),eql 221 (c 0)],rx 7 [221,220] [221])]:=qR
theorem aji:ab [([eql 563 427,eql 594 359,rx 0 [] [600,314],rx 12 [220,(c 2),(c 1),(c 1),(c 0),219,(c 0),359,427] [314]],rx 12 [220,(c 2),(c 1),(c 1),(c 0),219,(c 0),594,563] [600]),
([eql 853 717,eql 884 649,rx 0 [] [890,604],rx 12 [220,(c 2),(c 1),(c 1),(c 0),219,(c 0),649,717] [604]],rx 12 [220,(c 2),(c 1),(c 1),(c 0),219,(c 0),884,853] [890])]:=by
  repeat' (first|exact .nil|refine au ?_ ?_)
  all_goals(
   intro ρ h;simp only[vS,IE.den,BE.den,LE.den]at h⊢
   obtain⟨h0,h1,h2,h3⟩:=h
   simp only[h0,h1,h2];exact h3)
theorem ajj:ab [([rx 0 [] [601,315],rx 18 [219] [315]],rx 18 [219] [601]),
([rx 0 [] [891,605],rx 18 [219] [605]],rx 18 [219] [891])]:=by
  repeat' (first|exact .nil|refine au ?_ ?_)
  all_goals(
   intro ρ h;simp only[vS,IE.den,BE.den,LE.den]at h⊢
   obtain⟨h0,h1⟩:=h
   simp only[h0];exact h1)
theorem ajk:ab [([eql 580 321,rx 0 [] [580,321],rx 7 [321,220] [321]],rx 7 [580,220] [580]),
([eql 870 611,rx 0 [] [870,611],rx 7 [611,220] [611]],rx 7 [870,220] [870])]:=by
  repeat' (first|exact .nil|refine au ?_ ?_)
  all_goals(
   intro ρ h;simp only[vS,IE.den,BE.den,LE.den]at h⊢
   obtain⟨h0,h1,h2⟩:=h
   simp only[h0,h1];exact h2)
theorem ajl:ab [([eql 563 427,fb (.eqb 575 340),eql 576 341,eql 594 359,.imp (.lit true) (fb (ix (ex 359 (c 0)) (ix 340 (ix (ex 341 (c 0)) (ex 427 (c 1)) (.lit false)) (.lit false)) (.lit false)))],fb (ix (ex 562 (c 0)) (ix (ex 594 (c 0)) (ix 575 (ix (ex 576 (c 0)) (ex 563 (c 1)) (.lit false)) (.lit false)) (.lit false)) (.lit true))),
([eql 870 611,eql 884 649,.imp (ex 649 (c 0)) (eql 611 (c 0))],fb (ix (ex 884 (c 0)) (ex 870 (c 0)) (.lit true)))]:=kj
theorem ajm:ab [([eql 852 (wx (.add 562 (c 1))),eql 853 717,fb (.eqb 865 630),eql 866 631,eql 884 649,.imp (ix (ex 594 (c 0)) (ix 575 (ix (ex 563 (c 1)) (ix (ex 576 (c 0)) (.lit true) (.lit false)) (.lit false)) (.lit false)) (.lit false)) (fb (ix (ex 649 (c 0)) (ix 630 (ix (ex 631 (c 1)) (ex 717 (c 1)) (.lit false)) (.lit false)) (.lit false))),leq (c 0) 562,leq 562 (c 40),fb (ix (ex 562 (c 0)) (ix (ex 594 (c 0)) (ix 575 (ix (ex 576 (c 0)) (ex 563 (c 1)) (.lit false)) (.lit false)) (.lit false)) (.lit true))],fb (ix (ex 852 (c 1)) (ix (ex 884 (c 0)) (ix 865 (ix (ex 866 (c 1)) (ex 853 (c 1)) (.lit false)) (.lit false)) (.lit false)) (.lit true))),
([eql 852 (wx (.add 562 (c 1))),eql 853 717,eql 854 718,eql 855 719,fb (.eqb 865 630),eql 884 649,.imp (ix (ex 594 (c 0)) (ix 575 (ix (ex 563 (c 1)) (ix (ex 576 (c 1)) (.lit true) (.lit false)) (.lit false)) (.lit false)) (.lit false)) (fb (ix (ex 649 (c 1)) (ix (nx 630) (ix (ex 717 (c 0)) (ix (ex 718 (c 2)) (ex 719 (c 1)) (.lit false)) (.lit false)) (.lit false)) (.lit false))),leq (c 0) 562,leq 562 (c 40),fb (ix (ex 562 (c 1)) (ix (ex 594 (c 0)) (ix 575 (ix (ex 576 (c 1)) (ex 563 (c 1)) (.lit false)) (.lit false)) (.lit false)) (.lit true))],fb (ix (ex 852 (c 2)) (ix (ex 884 (c 1)) (ix (nx 865) (ix (ex 853 (c 0)) (ix (ex 854 (c 2)) (ex 855 (c 1)) (.lit false)) (.lit false)) (.lit false)) (.lit false)) (.lit true))),
([eql 852 (wx (.add 562 (c 1))),eql 853 717,fb (.eqb 865 630),eql 884 649,.imp (ix (ex 594 (c 1)) (ix (nx 575) (ix (ex 563 (c 0)) (ix (ex 564 (c 2)) (ex 565 (c 1)) (.lit false)) (.lit false)) (.lit false)) (.lit false)) (fb (ix (ex 649 (c 1)) (ix (nx 630) (ex 717 (c 2)) (.lit false)) (.lit false))),leq (c 0) 562,leq 562 (c 40),fb (ix (ex 562 (c 2)) (ix (ex 594 (c 1)) (ix (nx 575) (ix (ex 563 (c 0)) (ix (ex 564 (c 2)) (ex 565 (c 1)) (.lit false)) (.lit false)) (.lit false)) (.lit false)) (.lit true))],fb (ix (ex 852 (c 3)) (ix (ex 884 (c 1)) (ix (nx 865) (ex 853 (c 2)) (.lit false)) (.lit false)) (.lit true))),
([eql 852 (wx (.add 562 (c 1))),eql 853 717,fb (.eqb 865 630),eql 884 649,.imp (ix (ex 594 (c 1)) (ix (nx 575) (ex 563 (c 2)) (.lit false)) (.lit false)) (fb (ix (ex 649 (c 2)) (ix (nx 630) (ex 717 (c 2)) (.lit false)) (.lit false))),.imp (ix (ex 594 (c 2)) (ix (nx 575) (ex 563 (c 2)) (.lit false)) (.lit false)) (fb (ix (ex 649 (c 2)) (ix (nx 630) (ex 717 (c 2)) (.lit false)) (.lit false))),leq (c 0) 562,fb (ix (ex 562 (c 3)) (ix (ex 594 (c 1)) (ix (nx 575) (ex 563 (c 2)) (.lit false)) (.lit false)) (.lit true)),fb (ix (jx (c 4) 562) (ix (ex 594 (c 2)) (ix (nx 575) (ex 563 (c 2)) (.lit false)) (.lit false)) (.lit true)),lss 562 (c 40)],fb (ix (jx (c 4) 852) (ix (ex 884 (c 2)) (ix (nx 865) (ex 853 (c 2)) (.lit false)) (.lit false)) (.lit true)))]:=alv
theorem ajn:ab [([fb (ix (ix (ix (ex 359 (c 0)) (ex 594 (c 2)) (.lit false)) (ex 563 (c 2)) (.lit false)) (ex (.nat 5582) (c 2)) (.lit false))],lss (c 0) (.nat 5582))]:=s8
theorem ajo:ab [([rx 39 [220] [5582,600],eql 5582 220,rx 12 [220,(c 2),(c 1),(c 1),(c 0),219,(c 0),594,563] [600],rx 18 [219] [601],rx 7 [580,220] [580],fb (ix (ex 594 (c 0)) (ex 580 (c 0)) (.lit true)),leq (c 0) 580,leq 580 (c 1000000),leq (c 0) 563,leq 563 (c 2),leq (c 0) 562,leq 562 (c 40),fb (ix (ex 562 (c 0)) (ix (ex 594 (c 0)) (ix 575 (ix (ex 576 (c 0)) (ex 563 (c 1)) (.lit false)) (.lit false)) (.lit false)) (.lit true)),fb (ix (ex 562 (c 1)) (ix (ex 594 (c 0)) (ix 575 (ix (ex 576 (c 1)) (ex 563 (c 1)) (.lit false)) (.lit false)) (.lit false)) (.lit true)),fb (ix (ex 562 (c 2)) (ix (ex 594 (c 1)) (ix (nx 575) (ix (ex 563 (c 0)) (ix (ex 564 (c 2)) (ex 565 (c 1)) (.lit false)) (.lit false)) (.lit false)) (.lit false)) (.lit true)),fb (ix (ex 562 (c 3)) (ix (ex 594 (c 1)) (ix (nx 575) (ex 563 (c 2)) (.lit false)) (.lit false)) (.lit true)),fb (ix (jx (c 4) 562) (ix (ex 594 (c 2)) (ix (nx 575) (ex 563 (c 2)) (.lit false)) (.lit false)) (.lit true)),rx 12 [220,(c 2),(c 1),(c 1),(c 0),219,(c 0),359,427] [314],rx 18 [219] [315],rx 7 [321,220] [321],leq (c 0) 321,leq 321 (c 1000000),.imp (ex 359 (c 0)) (eql 321 (c 0)),leq (c 0) 427,leq 427 (c 2),rx 36 [220,(c 1),(c 0),360] [314,214],rx 35 [220,(c 0),(c 1)] [314],.imp (.cmp .neq 427 (c 1)) (rx 6 [220] [314]),.imp (.lit true) (fb (ix (ex 359 (c 0)) (ix 340 (ix (ex 341 (c 0)) (ex 427 (c 1)) (.lit false)) (.lit false)) (.lit false))),.imp (.lit false) (fb (ix (ex 359 (c 0)) (ix 340 (ix (ex 341 (c 1)) (ex 427 (c 1)) (.lit false)) (.lit false)) (.lit false))),.imp (.lit false) (fb (ix (ex 359 (c 1)) (ix (nx 340) (ix (ex 427 (c 0)) (ix (ex 428 (c 2)) (ex 429 (c 1)) (.lit false)) (.lit false)) (.lit false)) (.lit false))),.imp (.lit false) (fb (ix (ex 359 (c 1)) (ix (nx 340) (ex 427 (c 2)) (.lit false)) (.lit false))),.imp (.lit false) (fb (ix (ex 359 (c 2)) (ix (nx 340) (ex 427 (c 2)) (.lit false)) (.lit false))),.imp (.lit false) (fb (ix (ex 359 (c 2)) (ix (nx 340) (ex 427 (c 2)) (.lit false)) (.lit false))),eql 220 (c 2),eql 219 (c 1),rx 12 [220,(c 2),(c 1),(c 1),(c 0),219,(c 0),(c 0),(c 1)] [214],rx 18 [219] [215],fb (nx (lx 562 (c 40)))],fb (ix (ix (ix (ix (ix (ex 359 (c 0)) (ex 594 (c 2)) (.lit false)) (ex 563 (c 2)) (.lit false)) (ex (.nat 5582) (c 2)) (.lit false)) (.cmp .neq (gx 5582 (c 0) 0) (c 0)) (.lit false)) (.lit true) (.lit false)))]:=by
 repeat' (first|exact .nil|refine au ?_ ?_)
 all_goals(
  intro ρ h;simp only[vS,IE.den,BE.den,LE.den]at h⊢
  obtain⟨h0,h1,h2,h3,h4,h5,h6,h7,h8,h9,h10,h11,h12,h13,h14,h15,h16,h17,h18,h19,h20,h21,h22,h23,h24,h25,h26,h27,h28,hr⟩:=h
  have hn:ρ.i 220=2:=by grind
  have s:=h0 0 (by omega)
  have x:=h2.1 0 (by omega)
  simp only[aC]at x
  clear h0 h2 h3 h4 h17 h18 h19 h25 h26 h27
  grind)
theorem Vl:ad7.ok Tryz.prog:=ao (.cons Lw (.cons Va (.cons uf (.cons GF .nil)))) GM (a5t amz (a5t ajd (a5t aji (a5t ajj (a5t ajk (a5t ajl (a5t ajm (a5t ajn ajo)))))))) [3,4,61,62,5,6,7,8,9,10,11,12,13,14,15,16,63,65,67,17,18,19,20,21,22,23,24,25,26,27,28,29,30,31,32,33,34,35,69,36,37,38,39,3,4,61,40,41,64,66,68,70,42,43,44,45,46,47,48,49,50,51,52,53,54,55,56,57,58,59,60,71,72,73,74,3,4,61,0,75,75,0,0,0,0,0,0,0,0,0,0,0,0,0,0,0,0,0,0,0,0,0,0,0,0,0,0,0,0,0,0,0,0,0,0,0,0,0,0,0,0,0,0,0,0,0,0,0,0,0,0,0,0,0,0,0,0,0,0,0,0,0,0,0,0,0,0,0,0,0,0,0,0,0,0,0,0,0,0,0,0,0,0,0,0,0,0,0,0,0,0,0,0,0,0,76] (by kernel_rfl)
end Go.Proofs.YteelgjcnkhmigaaGreatDoor.K
