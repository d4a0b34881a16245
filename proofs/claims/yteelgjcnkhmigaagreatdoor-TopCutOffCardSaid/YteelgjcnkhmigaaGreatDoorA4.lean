/- Part 4 of the proofs of TopPhases, TopDoors and TopCutOff (over all inputs, no condition): the executor, and what the functions that they reach do. -/
import Derived.Test.YteelgjcnkhmigaaGreatDoorA3
set_option linter.unusedVariables false
set_option linter.unusedSimpArgs false
set_option linter.unusedSectionVars false
set_option maxHeartbeats 0
set_option maxRecDepth 100000
namespace Go.Proofs.YteelgjcnkhmigaaGreatDoor.K
open Go.RowKit Go.Proofs.YteelgjcnkhmigaaGreatDoor.E
theorem ai4:ab [([eql 218 147,rx 0 [] [219,2],rx 12 [8,101,104,105,112,7,102,147,115] [2]],rx 12 [8,101,104,105,112,7,102,218,115] [219]),
([eql 208 9,rx 0 [] [208,9],rx 7 [9,8] [9]],rx 7 [208,8] [208]),
([eql 408 218,rx 0 [] [409,219],rx 12 [8,101,104,105,112,7,102,218,115] [219]],rx 12 [8,101,104,105,112,7,102,408,115] [409]),
([eql 408 218,rx 0 [] [409,219],rx 13 [8,218,115] [219]],rx 13 [8,408,115] [409]),
([eql 398 208,rx 0 [] [398,208],rx 7 [208,8] [208]],rx 7 [398,8] [398]),
([eql 428 218,rx 0 [] [429,219],rx 12 [8,101,104,105,112,7,102,218,115] [219]],rx 12 [8,101,104,105,112,7,102,428,115] [429]),
([eql 428 218,rx 0 [] [429,219],rx 13 [8,218,115] [219]],rx 13 [8,428,115] [429]),
([eql 418 208,rx 0 [] [418,208],rx 7 [208,8] [208]],rx 7 [418,8] [418]),
([eql 448 218,rx 0 [] [449,268],rx 12 [8,101,104,105,112,7,102,218,115] [268]],rx 12 [8,101,104,105,112,7,102,448,115] [449]),
([eql 448 218,rx 0 [] [449,268],rx 13 [8,218,115] [268]],rx 13 [8,448,115] [449]),
([eql 438 208,rx 0 [] [438,208],rx 7 [208,8] [208]],rx 7 [438,8] [438]),
([eql 468 218,rx 0 [] [469,273],rx 12 [8,101,104,105,112,7,102,218,115] [273]],rx 12 [8,101,104,105,112,7,102,468,115] [469]),
([eql 468 218,rx 0 [] [469,273],rx 13 [8,218,115] [273]],rx 13 [8,468,115] [469]),
([eql 458 208,rx 0 [] [458,208],rx 7 [208,8] [208]],rx 7 [458,8] [458]),
([eql 488 218,rx 0 [] [489,278],rx 12 [8,101,104,105,112,7,102,218,115] [278]],rx 12 [8,101,104,105,112,7,102,488,115] [489]),
([eql 488 218,rx 0 [] [489,278],rx 13 [8,218,115] [278]],rx 13 [8,488,115] [489]),
([eql 478 208,rx 0 [] [478,208],rx 7 [208,8] [208]],rx 7 [478,8] [478]),
([eql 508 218,rx 0 [] [509,219],rx 12 [8,101,104,105,112,7,102,218,115] [219]],rx 12 [8,101,104,105,112,7,102,508,115] [509]),
([eql 508 218,rx 0 [] [509,219],rx 13 [8,218,115] [219]],rx 13 [8,508,115] [509]),
([eql 498 208,rx 0 [] [498,208],rx 7 [208,8] [208]],rx 7 [498,8] [498]),
([eql 528 334,rx 0 [] [529,289],rx 12 [8,101,104,105,112,7,102,334,115] [289]],rx 12 [8,101,104,105,112,7,102,528,115] [529]),
([eql 528 334,rx 0 [] [529,289],rx 13 [8,334,115] [289]],rx 13 [8,528,115] [529]),
([eql 518 296,rx 0 [] [518,296],rx 7 [296,8] [296]],rx 7 [518,8] [518]),
([eql 548 218,rx 0 [] [549,219],rx 12 [8,101,104,105,112,7,102,218,115] [219]],rx 12 [8,101,104,105,112,7,102,548,115] [549]),
([eql 548 218,rx 0 [] [549,219],rx 13 [8,218,115] [219]],rx 13 [8,548,115] [549]),
([eql 538 208,rx 0 [] [538,208],rx 7 [208,8] [208]],rx 7 [538,8] [538])]:=by
  repeat' (first|exact .nil|refine au ?_ ?_)
  all_goals(
   intro ρ h;simp only[vS,IE.den,BE.den,LE.den]at h⊢
   obtain⟨h0,h1,h2⟩:=h
   simp only[h0,h1];assumption)
theorem ai5:ab [([eql 218 147,rx 0 [] [219,2],rx 13 [8,147,115] [2]],rx 13 [8,218,115] [219]),
([rx 0 [] [220,3],rx 18 [7] [3]],rx 18 [7] [220])]:=va8
theorem ai6:ab [([rx 0 [] [219,2]],rx 14 [8] [2,219])]:=by
 repeat' (first|exact .nil|refine au ?_ ?_)
 all_goals(
  intro ρ h;simp only[vS,IE.den,BE.den,LE.den]at h⊢
  have h0:=h
  try simp only[IntKind.wrap_i64]at*
  intro a ha
  simp only[h0]
  try simp only[aC,fR,xh,XE,ae]at⊢
  grind)
theorem ai7:ab [([rx 0 [] [219,2]],rx 45 [201,8] [219,2]),
([rx 0 [] [409,219],rx 14 [8] [2,219]],rx 14 [8] [2,409]),
([rx 0 [] [429,219],rx 14 [8] [2,219]],rx 14 [8] [2,429]),
([rx 0 [] [509,219],rx 14 [8] [2,219]],rx 14 [8] [2,509]),
([rx 0 [] [549,219],rx 14 [8] [2,219]],rx 14 [8] [2,549])]:=qR
theorem ai8:ab [([eql 208 9,eql 218 147,.imp (ex 147 (c 0)) (eql 9 (c 0))],fb (ix (ex 218 (c 0)) (ex 208 (c 0)) (.lit true))),
([eql 209 11,leq (c 0) 11],leq (c 0) 209),
([eql 209 11,leq 11 (c 1000000)],leq 209 (c 1000000)),
([eql 210 12,leq (c 0) 12],leq (c 0) 210),
([eql 210 12,leq 12 (c 1000000)],leq 210 (c 1000000)),
([eql 212 13,leq (c 0) 13],leq (c 0) 212),
([eql 212 13,leq 13 (c 1000000)],leq 212 (c 1000000)),
([eql 211 140,leq (c 0) 140],leq (c 0) 211),
([eql 211 140,leq 140 (c 1)],leq 211 (c 1)),
([eql 208 9,leq (c 0) 9],leq (c 0) 208),
([eql 208 9,leq 9 (c 1000000)],leq 208 (c 1000000)),
([eql 202 (c 0)],leq (c 0) 202),
([eql 201 (c 0),eql 202 (c 0)],leq 202 201),
([eql 201 (c 0)],leq (c 0) 201),
([eql 201 (c 0)],leq 201 (.nat 16)),
([eql 217 14,leq (c 0) 14],leq (c 0) 217),
([eql 217 14,leq 14 (c 1000000)],leq 217 (c 1000000)),
([leq 202 201,leq 201 (.nat 16),leq 16 (c 1000000)],leq (.add (.nat 202) (c 1)) (c 4294967296)),
([eql 217 14,leq (c 0) 14],leq (c 0) 217),
([eql 217 14,leq 14 (c 1000000)],leq 217 (c 1000000)),
([leq 202 201,leq 201 (.nat 16),leq 16 (c 1000000)],leq (.add (.nat 202) (c 1)) (c 4294967296)),
([leq 202 201,leq 201 (.nat 16),leq 16 (c 1000000)],leq (.add (.nat 202) (c 1)) (c 4294967296)),
([leq 202 201,leq 201 (.nat 16),leq 16 (c 1000000)],leq (.add (.nat 202) (c 1)) (c 4294967296)),
([leq 202 201,leq 201 (.nat 16),leq 16 (c 1000000)],leq (.add (.nat 202) (c 1)) (c 4294967296)),
([leq 202 201,leq 201 (.nat 16),leq 16 (c 1000000)],leq (.add (.nat 202) (c 1)) (c 4294967296)),
([leq 202 201,leq 201 (.nat 16),leq 16 (c 1000000)],leq (.add (.nat 202) (c 1)) (c 4294967296)),
([leq 202 201,leq 201 (.nat 16),leq 16 (c 1000000)],leq (.add (.nat 202) (c 1)) (c 4294967296)),
([eql 391 (wx (.add 201 (c 1))),lss 201 (.nat 16),leq 16 (c 1000000)],lss (.nat (.sub (.nat 16) 391)) (.nat (.sub (.nat 16) 201))),
([eql 398 208,eql 408 218,fb (ix (ex 218 (c 0)) (ex 208 (c 0)) (.lit true))],fb (ix (ex 408 (c 0)) (ex 398 (c 0)) (.lit true))),
([eql 391 (wx (.add 201 (c 1))),leq (c 0) 201,leq 201 (.nat 16),leq 16 (c 1000000)],fb (ix (ex 391 (c 0)) (ix (ex 408 147) (ix (.eqb 393 128) (ex 394 129) (.lit false)) (.lit false)) (.lit true))),
([eql 399 209,leq (c 0) 209],leq (c 0) 399),
([eql 399 209,leq 209 (c 1000000)],leq 399 (c 1000000)),
([eql 400 210,leq (c 0) 210],leq (c 0) 400),
([eql 400 210,leq 210 (c 1000000)],leq 400 (c 1000000)),
([eql 402 212,leq (c 0) 212],leq (c 0) 402),
([eql 402 212,leq 212 (c 1000000)],leq 402 (c 1000000)),
([eql 401 211,leq (c 0) 211],leq (c 0) 401),
([eql 401 211,leq 211 (c 1)],leq 401 (c 1)),
([eql 407 236,eql 236 217,eql 217 14],eql 407 14),
([eql 398 208,leq (c 0) 208],leq (c 0) 398),
([eql 398 208,leq 208 (c 1000000)],leq 398 (c 1000000)),
([eql 392 (.add (.nat 202) (c 1))],leq (c 0) 392),
([eql 391 (wx (.add 201 (c 1))),eql 392 (.add (.nat 202) (c 1)),leq (c 0) 202,leq 202 201,lss 201 (.nat 16),leq 16 (c 1000000)],leq 392 391),
([eql 391 (wx (.add 201 (c 1))),leq (c 0) 201,lss 201 (.nat 16),leq 16 (c 1000000)],leq (c 0) 391),
([eql 391 (wx (.add 201 (c 1))),leq (c 0) 201,lss 201 (.nat 16)],leq 391 (.nat 16)),
([eql 411 (wx (.add 201 (c 1))),lss 201 (.nat 16),leq 16 (c 1000000)],lss (.nat (.sub (.nat 16) 411)) (.nat (.sub (.nat 16) 201))),
([eql 418 208,eql 428 218,fb (ix (ex 218 (c 0)) (ex 208 (c 0)) (.lit true))],fb (ix (ex 428 (c 0)) (ex 418 (c 0)) (.lit true))),
([eql 411 (wx (.add 201 (c 1))),leq (c 0) 201,leq 201 (.nat 16),leq 16 (c 1000000)],fb (ix (ex 411 (c 0)) (ix (ex 428 147) (ix (.eqb 413 128) (ex 414 129) (.lit false)) (.lit false)) (.lit true))),
([eql 419 209,leq (c 0) 209],leq (c 0) 419),
([eql 419 209,leq 209 (c 1000000)],leq 419 (c 1000000)),
([eql 420 210,leq (c 0) 210],leq (c 0) 420),
([eql 420 210,leq 210 (c 1000000)],leq 420 (c 1000000)),
([eql 422 212,leq (c 0) 212],leq (c 0) 422),
([eql 422 212,leq 212 (c 1000000)],leq 422 (c 1000000)),
([eql 421 211,leq (c 0) 211],leq (c 0) 421),
([eql 421 211,leq 211 (c 1)],leq 421 (c 1)),
([eql 427 258,eql 258 217,eql 217 14],eql 427 14),
([eql 418 208,leq (c 0) 208],leq (c 0) 418),
([eql 418 208,leq 208 (c 1000000)],leq 418 (c 1000000)),
([eql 412 (.add (.nat 202) (c 1))],leq (c 0) 412),
([eql 411 (wx (.add 201 (c 1))),eql 412 (.add (.nat 202) (c 1)),leq (c 0) 202,leq 202 201,lss 201 (.nat 16),leq 16 (c 1000000)],leq 412 411),
([eql 411 (wx (.add 201 (c 1))),leq (c 0) 201,leq 201 (.nat 16),leq 16 (c 1000000)],leq (c 0) 411),
([eql 411 (wx (.add 201 (c 1))),leq (c 0) 201,lss 201 (.nat 16)],leq 411 (.nat 16)),
([eql 431 (wx (.add 201 (c 1))),lss 201 (.nat 16),leq 16 (c 1000000)],lss (.nat (.sub (.nat 16) 431)) (.nat (.sub (.nat 16) 201))),
([eql 438 208,eql 448 218,fb (ix (ex 218 (c 0)) (ex 208 (c 0)) (.lit true))],fb (ix (ex 448 (c 0)) (ex 438 (c 0)) (.lit true))),
([eql 431 (wx (.add 201 (c 1))),leq (c 0) 201,lss 201 (.nat 16),leq 16 (c 1000000)],fb (ix (ex 431 (c 0)) (ix (ex 448 147) (ix (.eqb 433 128) (ex 434 129) (.lit false)) (.lit false)) (.lit true))),
([eql 439 209,leq (c 0) 209],leq (c 0) 439),
([eql 439 209,leq 209 (c 1000000)],leq 439 (c 1000000)),
([eql 440 210,leq (c 0) 210],leq (c 0) 440),
([eql 440 210,leq 210 (c 1000000)],leq 440 (c 1000000)),
([eql 442 212,leq (c 0) 212],leq (c 0) 442),
([eql 442 212,leq 212 (c 1000000)],leq 442 (c 1000000)),
([eql 441 211,leq (c 0) 211],leq (c 0) 441),
([eql 441 211,leq 211 (c 1)],leq 441 (c 1)),
([eql 447 217,eql 217 14],eql 447 14),
([eql 438 208,leq (c 0) 208],leq (c 0) 438),
([eql 438 208,leq 208 (c 1000000)],leq 438 (c 1000000)),
([eql 432 (.add (.nat 202) (c 1))],leq (c 0) 432),
([eql 431 (wx (.add 201 (c 1))),eql 432 (.add (.nat 202) (c 1)),leq 202 201,leq (c 0) 201,leq 201 (.nat 16),leq 16 (c 1000000)],leq 432 431),
([eql 431 (wx (.add 201 (c 1))),leq (c 0) 201,leq 201 (.nat 16),leq 16 (c 1000000)],leq (c 0) 431),
([eql 431 (wx (.add 201 (c 1))),leq (c 0) 201,lss 201 (.nat 16)],leq 431 (.nat 16)),
([eql 451 (wx (.add 201 (c 1))),lss 201 (.nat 16),leq 16 (c 1000000)],lss (.nat (.sub (.nat 16) 451)) (.nat (.sub (.nat 16) 201))),
([eql 458 208,eql 468 218,fb (ix (ex 218 (c 0)) (ex 208 (c 0)) (.lit true))],fb (ix (ex 468 (c 0)) (ex 458 (c 0)) (.lit true))),
([eql 451 (wx (.add 201 (c 1))),leq (c 0) 201,lss 201 (.nat 16),leq 16 (c 1000000)],fb (ix (ex 451 (c 0)) (ix (ex 468 147) (ix (.eqb 453 128) (ex 454 129) (.lit false)) (.lit false)) (.lit true))),
([eql 459 209,leq (c 0) 209],leq (c 0) 459),
([eql 459 209,leq 209 (c 1000000)],leq 459 (c 1000000)),
([eql 460 210,leq (c 0) 210],leq (c 0) 460),
([eql 460 210,leq 210 (c 1000000)],leq 460 (c 1000000)),
([eql 462 212,leq (c 0) 212],leq (c 0) 462),
([eql 462 212,leq 212 (c 1000000)],leq 462 (c 1000000)),
([eql 461 211,leq (c 0) 211],leq (c 0) 461),
([eql 461 211,leq 211 (c 1)],leq 461 (c 1)),
([eql 467 217,eql 217 14],eql 467 14),
([eql 458 208,leq (c 0) 208],leq (c 0) 458),
([eql 458 208,leq 208 (c 1000000)],leq 458 (c 1000000)),
([eql 452 (.add (.nat 202) (c 1))],leq (c 0) 452),
([eql 451 (wx (.add 201 (c 1))),eql 452 (.add (.nat 202) (c 1)),leq 202 201,leq (c 0) 201,leq 201 (.nat 16),leq 16 (c 1000000)],leq 452 451),
([eql 451 (wx (.add 201 (c 1))),leq (c 0) 201,leq 201 (.nat 16),leq 16 (c 1000000)],leq (c 0) 451),
([eql 451 (wx (.add 201 (c 1))),leq (c 0) 201,lss 201 (.nat 16)],leq 451 (.nat 16)),
([eql 471 (wx (.add 201 (c 1))),lss 201 (.nat 16),leq 16 (c 1000000)],lss (.nat (.sub (.nat 16) 471)) (.nat (.sub (.nat 16) 201))),
([eql 478 208,eql 488 218,fb (ix (ex 218 (c 0)) (ex 208 (c 0)) (.lit true))],fb (ix (ex 488 (c 0)) (ex 478 (c 0)) (.lit true))),
([eql 471 (wx (.add 201 (c 1))),leq (c 0) 201,lss 201 (.nat 16),leq 16 (c 1000000)],fb (ix (ex 471 (c 0)) (ix (ex 488 147) (ix (.eqb 473 128) (ex 474 129) (.lit false)) (.lit false)) (.lit true))),
([eql 479 209,leq (c 0) 209],leq (c 0) 479),
([eql 479 209,leq 209 (c 1000000)],leq 479 (c 1000000)),
([eql 480 210,leq (c 0) 210],leq (c 0) 480),
([eql 480 210,leq 210 (c 1000000)],leq 480 (c 1000000)),
([eql 482 212,leq (c 0) 212],leq (c 0) 482),
([eql 482 212,leq 212 (c 1000000)],leq 482 (c 1000000)),
([eql 481 211,leq (c 0) 211],leq (c 0) 481),
([eql 481 211,leq 211 (c 1)],leq 481 (c 1)),
([eql 487 217,eql 217 14],eql 487 14),
([eql 478 208,leq (c 0) 208],leq (c 0) 478),
([eql 478 208,leq 208 (c 1000000)],leq 478 (c 1000000)),
([eql 472 (.add (.nat 202) (c 1))],leq (c 0) 472),
([eql 471 (wx (.add 201 (c 1))),eql 472 (.add (.nat 202) (c 1)),leq 202 201,leq (c 0) 201,leq 201 (.nat 16),leq 16 (c 1000000)],leq 472 471),
([eql 471 (wx (.add 201 (c 1))),leq (c 0) 201,leq 201 (.nat 16),leq 16 (c 1000000)],leq (c 0) 471),
([eql 471 (wx (.add 201 (c 1))),leq (c 0) 201,lss 201 (.nat 16)],leq 471 (.nat 16)),
([eql 491 (wx (.add 201 (c 1))),lss 201 (.nat 16),leq 16 (c 1000000)],lss (.nat (.sub (.nat 16) 491)) (.nat (.sub (.nat 16) 201))),
([eql 498 208,eql 508 218,fb (ix (ex 218 (c 0)) (ex 208 (c 0)) (.lit true))],fb (ix (ex 508 (c 0)) (ex 498 (c 0)) (.lit true))),
([eql 491 (wx (.add 201 (c 1))),leq (c 0) 201,leq 201 (.nat 16),leq 16 (c 1000000)],fb (ix (ex 491 (c 0)) (ix (ex 508 147) (ix (.eqb 493 128) (ex 494 129) (.lit false)) (.lit false)) (.lit true))),
([eql 499 209,leq (c 0) 209],leq (c 0) 499),
([eql 499 209,leq 209 (c 1000000)],leq 499 (c 1000000)),
([eql 500 210,leq (c 0) 210],leq (c 0) 500),
([eql 500 210,leq 210 (c 1000000)],leq 500 (c 1000000)),
([eql 502 212,leq (c 0) 212],leq (c 0) 502),
([eql 502 212,leq 212 (c 1000000)],leq 502 (c 1000000)),
([eql 501 211,leq (c 0) 211],leq (c 0) 501),
([eql 501 211,leq 211 (c 1)],leq 501 (c 1)),
([eql 507 217,eql 217 14],eql 507 14),
([eql 498 208,leq (c 0) 208],leq (c 0) 498),
([eql 498 208,leq 208 (c 1000000)],leq 498 (c 1000000)),
([eql 492 (.add (.nat 202) (c 1))],leq (c 0) 492),
([eql 491 (wx (.add 201 (c 1))),eql 492 (.add (.nat 202) (c 1)),leq 202 201,leq (c 0) 201,leq 201 (.nat 16),leq 16 (c 1000000)],leq 492 491),
([eql 491 (wx (.add 201 (c 1))),leq (c 0) 201,leq 201 (.nat 16),leq 16 (c 1000000)],leq (c 0) 491),
([eql 491 (wx (.add 201 (c 1))),leq (c 0) 201,lss 201 (.nat 16)],leq 491 (.nat 16)),
([eql 511 (wx (.add 201 (c 1))),lss 201 (.nat 16),leq 16 (c 1000000)],lss (.nat (.sub (.nat 16) 511)) (.nat (.sub (.nat 16) 201))),
([eql 528 334,fb (.cmp .neq 334 (c 0))],fb (ix (ex 528 (c 0)) (ex 518 (c 0)) (.lit true))),
([eql 511 (wx (.add 201 (c 1))),leq (c 0) 201,leq 201 (.nat 16),leq 16 (c 1000000)],fb (ix (ex 511 (c 0)) (ix (ex 528 147) (ix (.eqb 513 128) (ex 514 129) (.lit false)) (.lit false)) (.lit true))),
([eql 519 298,leq (c 0) 298],leq (c 0) 519),
([eql 519 298,leq 298 (c 1000000)],leq 519 (c 1000000)),
([eql 520 299,leq (c 0) 299],leq (c 0) 520),
([eql 520 299,leq 299 (c 1000000)],leq 520 (c 1000000)),
([eql 522 300,leq (c 0) 300],leq (c 0) 522),
([eql 522 300,leq 300 (c 1000000)],leq 522 (c 1000000)),
([eql 521 327,leq (c 0) 327],leq (c 0) 521),
([eql 521 327,leq 327 (c 1)],leq 521 (c 1)),
([eql 527 217,eql 217 14],eql 527 14),
([eql 512 (.add (.nat 202) (c 1))],leq (c 0) 512),
([eql 511 (wx (.add 201 (c 1))),eql 512 (.add (.nat 202) (c 1)),leq 202 201,leq (c 0) 201,leq 201 (.nat 16),leq 16 (c 1000000)],leq 512 511),
([eql 511 (wx (.add 201 (c 1))),leq (c 0) 201,leq 201 (.nat 16),leq 16 (c 1000000)],leq (c 0) 511),
([eql 511 (wx (.add 201 (c 1))),leq (c 0) 201,lss 201 (.nat 16)],leq 511 (.nat 16)),
([eql 531 (wx (.add 201 (c 1))),lss 201 (.nat 16),leq 16 (c 1000000)],lss (.nat (.sub (.nat 16) 531)) (.nat (.sub (.nat 16) 201))),
([eql 538 208,eql 548 218,fb (ix (ex 218 (c 0)) (ex 208 (c 0)) (.lit true))],fb (ix (ex 548 (c 0)) (ex 538 (c 0)) (.lit true))),
([eql 531 (wx (.add 201 (c 1))),leq (c 0) 201,leq 201 (.nat 16),leq 16 (c 1000000)],fb (ix (ex 531 (c 0)) (ix (ex 548 147) (ix (.eqb 533 128) (ex 534 129) (.lit false)) (.lit false)) (.lit true))),
([eql 539 209,leq (c 0) 209],leq (c 0) 539),
([eql 539 209,leq 209 (c 1000000)],leq 539 (c 1000000)),
([eql 540 210,leq (c 0) 210],leq (c 0) 540),
([eql 540 210,leq 210 (c 1000000)],leq 540 (c 1000000)),
([eql 542 212,leq (c 0) 212],leq (c 0) 542),
([eql 542 212,leq 212 (c 1000000)],leq 542 (c 1000000)),
([eql 541 211,leq (c 0) 211],leq (c 0) 541),
([eql 541 211,leq 211 (c 1)],leq 541 (c 1)),
([eql 547 217,eql 217 14],eql 547 14),
([eql 538 208,leq (c 0) 208],leq (c 0) 538),
([eql 538 208,leq 208 (c 1000000)],leq 538 (c 1000000)),
([eql 532 (.add (.nat 202) (c 1))],leq (c 0) 532),
([eql 531 (wx (.add 201 (c 1))),eql 532 (.add (.nat 202) (c 1)),leq 202 201,leq (c 0) 201,leq 201 (.nat 16),leq 16 (c 1000000)],leq 532 531),
([eql 531 (wx (.add 201 (c 1))),leq (c 0) 201,leq 201 (.nat 16),leq 16 (c 1000000)],leq (c 0) 531),
([eql 531 (wx (.add 201 (c 1))),leq (c 0) 201,lss 201 (.nat 16)],leq 531 (.nat 16)),
([fb (ix (ex 218 (c 0)) (ex 208 (c 0)) (.lit true))],.imp (ex 218 (c 0)) (eql 208 (c 0)))]:=dS
theorem ai9:ab [([fb (.eqb 203 128),eql 204 129,eql 218 147],fb (ix (ex 201 (c 0)) (ix (ex 218 147) (ix (.eqb 203 128) (ex 204 129) (.lit false)) (.lit false)) (.lit true))),
([fb (ix (ex 201 (c 0)) (ix (ex 218 147) (ix (.eqb 203 128) (ex 204 129) (.lit false)) (.lit false)) (.lit true)),leq 201 (.nat 16),fb (nx (lx 201 (.nat 16)))],.imp (ex 16 (c 0)) (fb (ix (ex 218 147) (ix (.eqb 203 128) (ex 204 129) (.lit false)) (.lit false))))]:=s8
theorem aia:ab [([rx 0 [] [410,220],rx 18 [7] [220]],rx 18 [7] [410]),
([rx 0 [] [430,220],rx 18 [7] [220]],rx 18 [7] [430])]:=va7
theorem aib:ab [([eql 391 (wx (.add 201 (c 1))),leq (c 0) 201,lss 201 (.nat 16),leq 16 (c 1000000)],rx 45 [391,8] [409,2]),
([eql 411 (wx (.add 201 (c 1))),leq (c 0) 201,lss 201 (.nat 16),leq 16 (c 1000000)],rx 45 [411,8] [429,2]),
([eql 431 (wx (.add 201 (c 1))),leq (c 0) 201,lss 201 (.nat 16),leq 16 (c 1000000)],rx 45 [431,8] [449,2]),
([eql 451 (wx (.add 201 (c 1))),leq (c 0) 201,lss 201 (.nat 16),leq 16 (c 1000000)],rx 45 [451,8] [469,2]),
([eql 471 (wx (.add 201 (c 1))),leq (c 0) 201,lss 201 (.nat 16),leq 16 (c 1000000)],rx 45 [471,8] [489,2]),
([eql 491 (wx (.add 201 (c 1))),leq (c 0) 201,lss 201 (.nat 16),leq 16 (c 1000000)],rx 45 [491,8] [509,2]),
([eql 511 (wx (.add 201 (c 1))),leq (c 0) 201,lss 201 (.nat 16),leq 16 (c 1000000)],rx 45 [511,8] [529,2]),
([eql 531 (wx (.add 201 (c 1))),leq (c 0) 201,lss 201 (.nat 16),leq 16 (c 1000000)],rx 45 [531,8] [549,2])]:=by
  repeat' (first|exact .nil|refine au ?_ ?_)
  all_goals(
   intro ρ h;simp only[vS,IE.den,BE.den,LE.den]at h⊢
   obtain⟨h0,h1,h2,h3⟩:=h
   try simp only[IntKind.wrap_i64]at*
   intro e;exfalso;omega)
theorem aic:ab [([rx 0 [] [449,268],rx 14 [8] [219,268],rx 14 [8] [2,219]],rx 14 [8] [2,449]),
([rx 0 [] [469,273],rx 14 [8] [219,273],rx 14 [8] [2,219]],rx 14 [8] [2,469]),
([rx 0 [] [489,278],rx 14 [8] [219,278],rx 14 [8] [2,219]],rx 14 [8] [2,489]),
([rx 0 [] [529,289],rx 14 [8] [219,289],rx 14 [8] [2,219]],rx 14 [8] [2,529])]:=by
  repeat' (first|exact .nil|refine au ?_ ?_)
  all_goals(
   intro ρ h;simp only[vS,IE.den,BE.den,LE.den]at h⊢
   obtain⟨h0,h1,h2⟩:=h
   try simp only[IntKind.wrap_i64]at*
   intro a ha
   first|have xa1:=h1 a ha|have xa1:=True.intro
   first|have xa2:=h2 a ha|have xa2:=True.intro
   simp only[h0]
   try simp only[aC,fR,xh,XE,ae]at xa1 xa2⊢
   grind)
theorem aid:ab [([rx 0 [] [450,220],rx 18 [7] [220]],rx 18 [7] [450]),
([rx 0 [] [470,220],rx 18 [7] [220]],rx 18 [7] [470]),
([rx 0 [] [490,220],rx 18 [7] [220]],rx 18 [7] [490]),
([rx 0 [] [510,220],rx 18 [7] [220]],rx 18 [7] [510]),
([rx 0 [] [530,290],rx 18 [7] [290]],rx 18 [7] [530]),
([rx 0 [] [550,220],rx 18 [7] [220]],rx 18 [7] [550])]:=by
  repeat' (first|exact .nil|refine au ?_ ?_)
  all_goals(
   intro ρ h;simp only[vS,IE.den,BE.den,LE.den]at h⊢
   obtain⟨h0,h1⟩:=h
   simp only[h0];assumption)
theorem ai0:ab [([eql 518 296,rx 7 [296,8] [296]],leq (c 0) 518),
([eql 518 296,rx 7 [296,8] [296],rx 16 [101,102,104,105,106,107,108,109,110,111,112,8,7,5,6] []],leq 518 (c 1000000))]:=lm
theorem ai1:ab [([leq (c 0) 16,rx 45 [201,8] [219,2],leq 201 (.nat 16),fb (nx (lx 201 (.nat 16)))],rx 45 [16,8] [219,2])]:=kj
theorem Jm:a7g.ok Tryz.prog:=ao (.cons I7 (.cons I8 (.cons Zb (.cons PU (.cons PZ (.cons Zd (.cons Eu .nil))))))) Y5 (a5t ai4 (a5t ai5 (a5t ai6 (a5t ai7 (a5t ai8 (a5t ai9 (a5t aia (a5t aib (a5t aic (a5t aid (a5t ai0 ai1))))))))))) [3,29,31,30,4,32,37,207,38,39,40,41,42,43,44,45,2,46,47,48,49,50,51,2,2,0,52,53,54,2,52,53,54,2,54,2,54,2,54,2,54,2,54,2,54,2,64,5,6,33,209,7,211,65,66,67,68,69,70,71,72,73,74,75,76,77,78,79,80,81,82,8,9,34,210,10,212,83,84,85,86,87,88,89,90,91,92,93,94,95,96,97,98,99,100,11,12,219,223,13,213,101,102,103,104,105,106,107,108,109,110,111,112,113,114,115,116,117,118,14,15,220,224,16,214,119,120,121,122,123,124,125,126,127,128,129,130,131,132,133,134,135,136,17,18,221,225,19,215,137,138,139,140,141,142,143,144,145,146,147,148,149,150,151,152,153,154,20,21,35,226,22,216,155,156,157,158,159,160,161,162,163,164,165,166,167,168,169,170,171,172,23,24,222,227,25,217,173,174,175,176,177,178,179,180,181,182,183,229,230,184,185,186,187,188,26,27,36,228,28,218,189,190,191,192,193,194,195,196,197,198,199,200,201,202,203,204,205,2,2,2,2,2,2,2,206,2,2,2,2,2,2,2,2,2,231,208] (by kernel_rfl)
theorem a2k:ab [([fb (nx (lx 12 (c 0)))],leq (c 0) 12),
([eql 13 0,leq 0 (c 1000000)],leq 13 (c 1000000)),
([],leq 0 0),
([eql 15 (.sub 13 (c 1)),eql 13 0],leq 15 0)]:=dS
theorem a2l:ab [([eql 13 0,rx 5 [12,0,5] [0]],lss 12 13),
([rx 5 [12,0,5] [0],lss 12 (c 0)],rx 4 [0,5] [0]),
([],rx 9 [0,0] [0,0]),
([eql 15 (.sub 13 (c 1)),rx 10 [12,15] [15,13],eql 13 0,rx 3 [0] [13,0]],rx 9 [15,0] [15,0]),
([eql 15 (.sub 13 (c 1)),eql 13 0,rx 5 [12,0,5] [0],fb (nx (lx 12 (c 0)))],leq (c 0) 15)]:=kj
theorem a2m:ab [([rx 5 [12,0,5] [0],leq 0 (c 1000000)],eql (wx (.add 12 (c 1))) (.add 12 (c 1)))]:=lm
theorem a2n:ab [([rx 7 [0,8] [0],leq (c 0) 0,leq 0 (c 1000000),eql 15 (.sub 13 (c 1)),rx 10 [12,15] [15,13],eql 13 0,rx 3 [0] [13,0],rx 5 [12,0,5] [0],fb (nx (lx 12 (c 0)))],rx 7 [15,8] [15])]:=by
 repeat' (first|exact .nil|refine au ?_ ?_)
 all_goals(
  intro ρ;(intro h;simp only[vS,IE.den,BE.den,LE.den]at h⊢;revert h;(try simp only[and_imp]);intros)
  exact Z4 (l:=ρ.l 0) (i:=ρ.i 12) (m:=ρ.i 0) (l0:=ρ.l 13) (by assumption) (by assumption) (fun a j ha=>by((simp only[vL,ae,eh]at*);grind)) (by omega) (by omega) (by((simp only[vL,ae,eh]at*);omega)))
theorem a2o:ab [([rx 7 [0,8] [0],eql 15 (.sub 13 (c 1)),rx 10 [12,15] [15,13],eql 13 0,rx 3 [0] [13,0],rx 5 [12,0,5] [0]],rx 4 [15,5] [15])]:=va8
theorem a2p:aep.ok Tryz.prog:=ao (.cons xC (.cons fO (.cons HZ .nil))) eW (a5t a2k (a5t a2l (a5t a2m (a5t a2n a2o)))) [3,7,12,4,2,8,9,2,5,13,14,10,11,6] (by kernel_rfl)
theorem RO:ab [([eql 205 9,rx 0 [] [205,9],rx 7 [9,8] [9]],rx 7 [205,8] [205]),
([eql 201 (c 0),eql 205 9,rx 0 [] [205,9],rx 7 [9,8] [9]],rx 30 [201,205] [2,205])]:=qR
theorem RP:ab [([eql 205 9,leq (c 0) 9],leq (c 0) 205),
([eql 205 9],leq 205 9),
([eql 201 (c 0)],leq (c 0) 201),
([eql 201 (c 0)],leq 201 (.nat 8)),
([leq 205 9,leq 9 (c 1000000)],leq 205 (c 1000000)),
([eql 211 (wx (.add 201 (c 1))),lss 201 (.nat 8),leq 8 (c 64)],lss (.nat (.sub (.nat 8) 211)) (.nat (.sub (.nat 8) 201))),
([eql 215 207,leq (c 0) 207],leq (c 0) 215),
([eql 215 207,leq 207 205,leq 205 9],leq 215 9),
([eql 211 (wx (.add 201 (c 1))),leq (c 0) 201,lss 201 (.nat 8),leq 8 (c 64)],leq (c 0) 211),
([eql 211 (wx (.add 201 (c 1))),leq (c 0) 201,lss 201 (.nat 8)],leq 211 (.nat 8)),
([eql 216 (wx (.add 201 (c 1))),lss 201 (.nat 8),leq 8 (c 64)],lss (.nat (.sub (.nat 8) 216)) (.nat (.sub (.nat 8) 201))),
([eql 220 205,leq (c 0) 205],leq (c 0) 220),
([eql 220 205,leq 205 9],leq 220 9),
([eql 216 (wx (.add 201 (c 1))),leq (c 0) 201,lss 201 (.nat 8),leq 8 (c 64)],leq (c 0) 216),
([eql 216 (wx (.add 201 (c 1))),leq (c 0) 201,lss 201 (.nat 8)],leq 216 (.nat 8))]:=dS
theorem RQ:ab [([eql 215 207,rx 0 [] [215,207],rx 7 [207,8] [207]],rx 7 [215,8] [215]),
([eql 220 205,rx 0 [] [220,205],rx 7 [205,8] [205]],rx 7 [220,8] [220])]:=by
  repeat' (first|exact .nil|refine au ?_ ?_)
  all_goals(
   intro ρ h;simp only[vS,IE.den,BE.den,LE.den]at h⊢
   obtain⟨h0,h1,h2⟩:=h
   simp only[h0,h1];exact h2)
theorem RT:ab [([eql 211 (wx (.add 201 (c 1))),eql 215 207,rx 0 [] [215,207],rx 7 [207,8] [207],rx 4 [207,201] [207],rx 9 [207,205] [207,205],leq (c 0) 207,leq 207 205,rx 7 [205,8] [205],rx 30 [201,205] [2,205],leq (c 0) 205,leq 205 9,leq (c 0) 201,leq 201 (.nat 8),eql (gx 2 201 11) (c (-1)),lss 201 (.nat 8),leq (c 0) 8,leq 8 (c 64),rx 7 [9,8] [9],leq (c 0) 9,leq 9 (c 1000000)],rx 30 [211,215] [2,215])]:=by
 repeat' (first|exact .nil|refine au ?_ ?_)
 all_goals(
  intro ρ h;simp only[vS,IE.den,BE.den,LE.den]at h⊢
  obtain⟨h0,h1,h2,h3,h4,h5,h6,h7,h8,h9,h10,h11,h12,h13,h14,h15,h16⟩:=h
  have hn:ρ.i 211=ρ.i 201+1:=by simp only[IntKind.wrap_i64]at h0;omega
  intro a ha hx hj
  rw[h1]at ha;rw[h2]at hx hj
  have n1:=h4 a ha
  exact h5 (ρ.l 207 a 0) (fun b hb e=>h9 b hb (by omega) (by rw[e];exact hj)) a ha rfl)
theorem RU:ab [([eql 216 (wx (.add 201 (c 1))),eql 220 205,rx 0 [] [220,205],rx 7 [205,8] [205],rx 30 [201,205] [2,205],leq (c 0) 205,leq 205 9,leq (c 0) 201,leq 201 (.nat 8),fb (nx (ex (gx 2 201 11) (c (-1)))),lss 201 (.nat 8),leq (c 0) 8,leq 8 (c 64),rx 7 [9,8] [9],leq (c 0) 9,leq 9 (c 1000000)],rx 30 [216,220] [2,220])]:=by
 repeat' (first|exact .nil|refine au ?_ ?_)
 all_goals(
  intro ρ h;simp only[vS,IE.den,BE.den,LE.den]at h⊢
  obtain⟨h0,h1,h2,h3,h4,h5,h6,h7,h8,h9,h10,h11⟩:=h
  have hn:ρ.i 216=ρ.i 201+1:=by simp only[IntKind.wrap_i64]at h0;omega
  intro a ha hx hj
  rw[h1]at ha;rw[h2]at hx hj
  by_cases e:ρ.l 205 a 0=ρ.i 201
  ·rw[e]at hj;exact h9 hj
  ·exact h4 a ha (by omega) hj)
theorem RV:ab [([rx 30 [201,205] [2,205],fb (nx (lx 201 (.nat 8)))],rx 30 [8,205] [2,205])]:=by
 repeat' (first|exact .nil|refine au ?_ ?_)
 all_goals(
  intro ρ h;simp only[vS,IE.den,BE.den,LE.den]at h⊢
  obtain⟨h0,h1⟩:=h
  try simp only[IntKind.wrap_i64]at*
  intro a ha
  first|have xa0:=h0 a ha|have xa0:=True.intro
  try simp only[aC,fR,xh,XE,ae]at xa0⊢
  grind)
theorem RW:acn.ok Tryz.prog:=ao (.cons a2p .nil) eW (a5t RO (a5t RP (a5t RQ (a5t RT (a5t RU RV))))) [3,4,5,6,7,8,2,2,0,0,9,10,20,22,11,12,13,14,15,21,23,16,17,18,19,2,24,2,2] (by kernel_rfl)
theorem RX:ab [([leq (c 0) 115],leq (c 0) (.ite (ix (ex 115 (c 1)) (.lit true) (ex 115 (c 2))) (.ite (ix (ix (ex (c 1) 115) (.lit true) (.lit false)) (.lit true) 202) 115 (c 0)) (.ite (.cmp .geq (wx (.sub 117 (c 1))) (c 1)) 115 (.ite (ix (ex 116 (c 1)) (.lit true) (ex 116 (c 2))) 116 (c 1))))),
([leq 115 (c 2)],leq (.ite (ix (ex 115 (c 1)) (.lit true) (ex 115 (c 2))) (.ite (ix (ix (ex (c 1) 115) (.lit true) (.lit false)) (.lit true) 202) 115 (c 0)) (.ite (.cmp .geq (wx (.sub 117 (c 1))) (c 1)) 115 (.ite (ix (ex 116 (c 1)) (.lit true) (ex 116 (c 2))) 116 (c 1)))) (c 2)),
([leq (c 0) 115],leq (c 0) (.ite (ix (ex 115 (c 1)) (.lit true) (ex 115 (c 2))) (.ite (ix (ix (ex (c 2) 115) (.lit true) (.lit false)) (.lit true) 206) 115 (c 0)) (.ite (.cmp .geq (wx (.sub 117 (c 1))) (c 1)) 115 (.ite (ix (ex 116 (c 1)) (.lit true) (ex 116 (c 2))) 116 (c 1))))),
([leq 115 (c 2)],leq (.ite (ix (ex 115 (c 1)) (.lit true) (ex 115 (c 2))) (.ite (ix (ix (ex (c 2) 115) (.lit true) (.lit false)) (.lit true) 206) 115 (c 0)) (.ite (.cmp .geq (wx (.sub 117 (c 1))) (c 1)) 115 (.ite (ix (ex 116 (c 1)) (.lit true) (ex 116 (c 2))) 116 (c 1)))) (c 2)),
([leq (c 0) 115],leq (c 0) (.ite (ix (ex 115 (c 1)) (.lit true) (ex 115 (c 2))) (.ite (ix (ix (ex 115 115) (.lit true) (nx (ix (ex 115 (c 1)) (.lit true) (ex 115 (c 2))))) (.lit true) 210) 115 (c 0)) (.ite (.cmp .geq (wx (.sub 117 (c 1))) (c 1)) 115 (.ite (ix (ex 116 (c 1)) (.lit true) (ex 116 (c 2))) 116 (c 1))))),
([leq 115 (c 2)],leq (.ite (ix (ex 115 (c 1)) (.lit true) (ex 115 (c 2))) (.ite (ix (ix (ex 115 115) (.lit true) (nx (ix (ex 115 (c 1)) (.lit true) (ex 115 (c 2))))) (.lit true) 210) 115 (c 0)) (.ite (.cmp .geq (wx (.sub 117 (c 1))) (c 1)) 115 (.ite (ix (ex 116 (c 1)) (.lit true) (ex 116 (c 2))) 116 (c 1)))) (c 2))]:=dS
theorem RY:ab [([leq (c 0) 115,leq 115 (c 2),.imp (nx 202) (rx 6 [8] [2])],.imp (ix (.cmp .neq (.ite (ix (ex 115 (c 1)) (.lit true) (ex 115 (c 2))) (.ite (ix (ix (ex (c 1) 115) (.lit true) (.lit false)) (.lit true) 202) 115 (c 0)) (.ite (.cmp .geq (wx (.sub 117 (c 1))) (c 1)) 115 (.ite (ix (ex 116 (c 1)) (.lit true) (ex 116 (c 2))) 116 (c 1)))) 115) (.cmp .neq 115 (c 0)) (.lit false)) (rx 6 [8] [2])),
([leq (c 0) 115,leq 115 (c 2),.imp (nx 206) (rx 6 [8] [2])],.imp (ix (.cmp .neq (.ite (ix (ex 115 (c 1)) (.lit true) (ex 115 (c 2))) (.ite (ix (ix (ex (c 2) 115) (.lit true) (.lit false)) (.lit true) 206) 115 (c 0)) (.ite (.cmp .geq (wx (.sub 117 (c 1))) (c 1)) 115 (.ite (ix (ex 116 (c 1)) (.lit true) (ex 116 (c 2))) 116 (c 1)))) 115) (.cmp .neq 115 (c 0)) (.lit false)) (rx 6 [8] [2]))]:=by
  repeat' (first|exact .nil|refine au ?_ ?_)
  all_goals(
   intro ρ h;simp only[vS,IE.den,BE.den,LE.den]at h⊢
   obtain⟨h0,h1,h2⟩:=h
   try simp only[IntKind.wrap_i64]at*
   intro hc
   intro a ha
   first|have xa2:=fun h1=>(h2 h1) a ha|have xa2:=True.intro
   try simp only[aC,fR,xh,XE,ae]at xa2⊢
   grind)
theorem RZ:ab [([],.imp (ix (ex 115 (c 1)) 128 (.lit false)) (eql (.ite (ix (ex 115 (c 1)) (.lit true) (ex 115 (c 2))) (.ite (ix (ix (ex (c 1) 115) (.lit true) (.lit false)) (.lit true) 202) 115 (c 0)) (.ite (.cmp .geq (wx (.sub 117 (c 1))) (c 1)) 115 (.ite (ix (ex 116 (c 1)) (.lit true) (ex 116 (c 2))) 116 (c 1)))) (c 1))),
([fb 128],.imp (ix (ex 115 (c 2)) (ix (nx 128) 161 (.lit false)) (.lit false)) (eql (.ite (ix (ex 115 (c 1)) (.lit true) (ex 115 (c 2))) (.ite (ix (ix (ex (c 1) 115) (.lit true) (.lit false)) (.lit true) 202) 115 (c 0)) (.ite (.cmp .geq (wx (.sub 117 (c 1))) (c 1)) 115 (.ite (ix (ex 116 (c 1)) (.lit true) (ex 116 (c 2))) 116 (c 1)))) (c 2))),
([],.imp (ix (ix (ex 115 (c 1)) (ex 108 (c 1)) (.lit false)) (ix (nx 128) 161 (.lit false)) (.lit false)) (.imp (ex (.ite (ix (ex 115 (c 1)) (.lit true) (ex 115 (c 2))) (.ite (ix (ix (ex (c 1) 115) (.lit true) (.lit false)) (.lit true) 202) 115 (c 0)) (.ite (.cmp .geq (wx (.sub 117 (c 1))) (c 1)) 115 (.ite (ix (ex 116 (c 1)) (.lit true) (ex 116 (c 2))) 116 (c 1)))) (c 0)) (fb (ix (ex (.ite (ix (ex 115 (c 1)) (.lit true) (ex 115 (c 2))) (.ite (ix (ix (ex (c 1) 115) (.lit true) (.lit false)) (.lit true) 202) 116 (c 1)) (.ite (.cmp .geq (wx (.sub 117 (c 1))) (c 1)) 116 (c 0))) (c 2)) (ex (.ite (ix (ex 115 (c 1)) (.lit true) (ex 115 (c 2))) (.ite (ix (ix (ex (c 1) 115) (.lit true) (.lit false)) (.lit true) 202) 117 (.mn (.mx 108 (c 1)) (c 200))) (.ite (.cmp .geq (wx (.sub 117 (c 1))) (c 1)) (wx (.sub 117 (c 1))) (c 0))) (c 1)) (.lit false))))),
([fb (nx 128)],.imp (ix (ex 115 (c 1)) 128 (.lit false)) (eql (.ite (ix (ex 115 (c 1)) (.lit true) (ex 115 (c 2))) (.ite (ix (ix (ex (c 2) 115) (.lit true) (.lit false)) (.lit true) 206) 115 (c 0)) (.ite (.cmp .geq (wx (.sub 117 (c 1))) (c 1)) 115 (.ite (ix (ex 116 (c 1)) (.lit true) (ex 116 (c 2))) 116 (c 1)))) (c 1))),
([],.imp (ix (ex 115 (c 2)) (ix (nx 128) 161 (.lit false)) (.lit false)) (eql (.ite (ix (ex 115 (c 1)) (.lit true) (ex 115 (c 2))) (.ite (ix (ix (ex (c 2) 115) (.lit true) (.lit false)) (.lit true) 206) 115 (c 0)) (.ite (.cmp .geq (wx (.sub 117 (c 1))) (c 1)) 115 (.ite (ix (ex 116 (c 1)) (.lit true) (ex 116 (c 2))) 116 (c 1)))) (c 2))),
([],.imp (ix (ix (ex 115 (c 1)) (ex 108 (c 1)) (.lit false)) (ix (nx 128) 161 (.lit false)) (.lit false)) (.imp (ex (.ite (ix (ex 115 (c 1)) (.lit true) (ex 115 (c 2))) (.ite (ix (ix (ex (c 2) 115) (.lit true) (.lit false)) (.lit true) 206) 115 (c 0)) (.ite (.cmp .geq (wx (.sub 117 (c 1))) (c 1)) 115 (.ite (ix (ex 116 (c 1)) (.lit true) (ex 116 (c 2))) 116 (c 1)))) (c 0)) (fb (ix (ex (.ite (ix (ex 115 (c 1)) (.lit true) (ex 115 (c 2))) (.ite (ix (ix (ex (c 2) 115) (.lit true) (.lit false)) (.lit true) 206) 116 (c 2)) (.ite (.cmp .geq (wx (.sub 117 (c 1))) (c 1)) 116 (c 0))) (c 2)) (ex (.ite (ix (ex 115 (c 1)) (.lit true) (ex 115 (c 2))) (.ite (ix (ix (ex (c 2) 115) (.lit true) (.lit false)) (.lit true) 206) 117 (.mn (.mx 108 (c 1)) (c 200))) (.ite (.cmp .geq (wx (.sub 117 (c 1))) (c 1)) (wx (.sub 117 (c 1))) (c 0))) (c 1)) (.lit false))))),
([],.imp (ix (ex 115 (c 1)) 128 (.lit false)) (eql (.ite (ix (ex 115 (c 1)) (.lit true) (ex 115 (c 2))) (.ite (ix (ix (ex 115 115) (.lit true) (nx (ix (ex 115 (c 1)) (.lit true) (ex 115 (c 2))))) (.lit true) 210) 115 (c 0)) (.ite (.cmp .geq (wx (.sub 117 (c 1))) (c 1)) 115 (.ite (ix (ex 116 (c 1)) (.lit true) (ex 116 (c 2))) 116 (c 1)))) (c 1))),
([],.imp (ix (ex 115 (c 2)) (ix (nx 128) 161 (.lit false)) (.lit false)) (eql (.ite (ix (ex 115 (c 1)) (.lit true) (ex 115 (c 2))) (.ite (ix (ix (ex 115 115) (.lit true) (nx (ix (ex 115 (c 1)) (.lit true) (ex 115 (c 2))))) (.lit true) 210) 115 (c 0)) (.ite (.cmp .geq (wx (.sub 117 (c 1))) (c 1)) 115 (.ite (ix (ex 116 (c 1)) (.lit true) (ex 116 (c 2))) 116 (c 1)))) (c 2))),
([],.imp (ix (ix (ex 115 (c 1)) (ex 108 (c 1)) (.lit false)) (ix (nx 128) 161 (.lit false)) (.lit false)) (.imp (ex (.ite (ix (ex 115 (c 1)) (.lit true) (ex 115 (c 2))) (.ite (ix (ix (ex 115 115) (.lit true) (nx (ix (ex 115 (c 1)) (.lit true) (ex 115 (c 2))))) (.lit true) 210) 115 (c 0)) (.ite (.cmp .geq (wx (.sub 117 (c 1))) (c 1)) 115 (.ite (ix (ex 116 (c 1)) (.lit true) (ex 116 (c 2))) 116 (c 1)))) (c 0)) (fb (ix (ex (.ite (ix (ex 115 (c 1)) (.lit true) (ex 115 (c 2))) (.ite (ix (ix (ex 115 115) (.lit true) (nx (ix (ex 115 (c 1)) (.lit true) (ex 115 (c 2))))) (.lit true) 210) 116 115) (.ite (.cmp .geq (wx (.sub 117 (c 1))) (c 1)) 116 (c 0))) (c 2)) (ex (.ite (ix (ex 115 (c 1)) (.lit true) (ex 115 (c 2))) (.ite (ix (ix (ex 115 115) (.lit true) (nx (ix (ex 115 (c 1)) (.lit true) (ex 115 (c 2))))) (.lit true) 210) 117 (.mn (.mx 108 (c 1)) (c 200))) (.ite (.cmp .geq (wx (.sub 117 (c 1))) (c 1)) (wx (.sub 117 (c 1))) (c 0))) (c 1)) (.lit false)))))]:=s8
theorem S0:ab [([],.imp (.ite (.cmp .eql (v 115) (c 0)) (.ite (.cmp .eql (v 116) (c 2)) (.cmp .eql (v 117) (c 1)) (.lit false)) (.lit false)) (.be (.cmp .eql (.ite (.ite (.cmp .eql (v 115) (c 1)) (.lit true) (.cmp .eql (v 115) (c 2))) (.ite (.ite (.ite (.cmp .eql (c 1) (v 115)) (.lit true) (.lit false)) (.lit true) (.var 202)) (v 115) (c 0)) (.ite (.cmp .geq (.wrap .i64 (.sub (v 117) (c 1))) (c 1)) (v 115) (.ite (.ite (.cmp .eql (v 116) (c 1)) (.lit true) (.cmp .eql (v 116) (c 2))) (v 116) (c 1)))) (c 2)))),
([],.imp (.ite (.cmp .eql (v 115) (c 0)) (.ite (.cmp .eql (v 116) (c 2)) (.cmp .eql (v 117) (c 1)) (.lit false)) (.lit false)) (.be (.cmp .eql (.ite (.ite (.cmp .eql (v 115) (c 1)) (.lit true) (.cmp .eql (v 115) (c 2))) (.ite (.ite (.ite (.cmp .eql (c 2) (v 115)) (.lit true) (.lit false)) (.lit true) (.var 206)) (v 115) (c 0)) (.ite (.cmp .geq (.wrap .i64 (.sub (v 117) (c 1))) (c 1)) (v 115) (.ite (.ite (.cmp .eql (v 116) (c 1)) (.lit true) (.cmp .eql (v 116) (c 2))) (v 116) (c 1)))) (c 2)))),
([],.imp (.ite (.cmp .eql (v 115) (c 0)) (.ite (.cmp .eql (v 116) (c 2)) (.cmp .eql (v 117) (c 1)) (.lit false)) (.lit false)) (.be (.cmp .eql (.ite (.ite (.cmp .eql (v 115) (c 1)) (.lit true) (.cmp .eql (v 115) (c 2))) (.ite (.ite (.ite (.cmp .eql (v 115) (v 115)) (.lit true) (.not (.ite (.cmp .eql (v 115) (c 1)) (.lit true) (.cmp .eql (v 115) (c 2))))) (.lit true) (.var 210)) (v 115) (c 0)) (.ite (.cmp .geq (.wrap .i64 (.sub (v 117) (c 1))) (c 1)) (v 115) (.ite (.ite (.cmp .eql (v 116) (c 1)) (.lit true) (.cmp .eql (v 116) (c 2))) (v 116) (c 1)))) (c 2))))]:=by
  repeat' (first|exact .nil|refine au ?_ ?_)
  all_goals(
   intro ρ h;clear h;simp only[vS,IE.den,BE.den,LE.den,IntKind.wrap_i64]
   grind)
theorem S1:ab [([fb 128],.imp (ix (ix (ex 115 (c 1)) (ex 108 (c 1)) (.lit false)) (ix (nx 128) 161 (.lit false)) (.lit false)) (.imp (.cmp .neq (.ite (ix (ex 115 (c 1)) (.lit true) (ex 115 (c 2))) (.ite (ix (ix (ex (c 1) 115) (.lit true) (.lit false)) (.lit true) 202) 115 (c 0)) (.ite (.cmp .geq (wx (.sub 117 (c 1))) (c 1)) 115 (.ite (ix (ex 116 (c 1)) (.lit true) (ex 116 (c 2))) 116 (c 1)))) (c 0)) (rx 29 [8] [2]))),
([.imp 206 (rx 29 [8] [2])],.imp (ix (ix (ex 115 (c 1)) (ex 108 (c 1)) (.lit false)) (ix (nx 128) 161 (.lit false)) (.lit false)) (.imp (.cmp .neq (.ite (ix (ex 115 (c 1)) (.lit true) (ex 115 (c 2))) (.ite (ix (ix (ex (c 2) 115) (.lit true) (.lit false)) (.lit true) 206) 115 (c 0)) (.ite (.cmp .geq (wx (.sub 117 (c 1))) (c 1)) 115 (.ite (ix (ex 116 (c 1)) (.lit true) (ex 116 (c 2))) 116 (c 1)))) (c 0)) (rx 29 [8] [2]))),
([fb (nx 161)],.imp (ix (ix (ex 115 (c 1)) (ex 108 (c 1)) (.lit false)) (ix (nx 128) 161 (.lit false)) (.lit false)) (.imp (.cmp .neq (.ite (ix (ex 115 (c 1)) (.lit true) (ex 115 (c 2))) (.ite (ix (ix (ex 115 115) (.lit true) (nx (ix (ex 115 (c 1)) (.lit true) (ex 115 (c 2))))) (.lit true) 210) 115 (c 0)) (.ite (.cmp .geq (wx (.sub 117 (c 1))) (c 1)) 115 (.ite (ix (ex 116 (c 1)) (.lit true) (ex 116 (c 2))) 116 (c 1)))) (c 0)) (rx 29 [8] [2])))]:=kj
theorem S2:ab [([leq (c 0) 115,leq 115 (c 2)],.imp (ix (.cmp .neq (.ite (ix (ex 115 (c 1)) (.lit true) (ex 115 (c 2))) (.ite (ix (ix (ex 115 115) (.lit true) (nx (ix (ex 115 (c 1)) (.lit true) (ex 115 (c 2))))) (.lit true) 210) 115 (c 0)) (.ite (.cmp .geq (wx (.sub 117 (c 1))) (c 1)) 115 (.ite (ix (ex 116 (c 1)) (.lit true) (ex 116 (c 2))) 116 (c 1)))) 115) (.cmp .neq 115 (c 0)) (.lit false)) (rx 6 [8] [2]))]:=by
 repeat' (first|exact .nil|refine au ?_ ?_)
 all_goals(
  intro ρ h;simp only[vS,IE.den,BE.den,LE.den]at h⊢
  obtain⟨h0,h1⟩:=h
  try simp only[IntKind.wrap_i64]at*
  intro hc
  intro a ha
  try simp only[aC,fR,xh,XE,ae]at⊢
  grind)
theorem S3:acj.ok Tryz.prog:=ao (.cons tM .nil) eW (a5t RX (a5t RY (a5t RZ (a5t S0 (a5t S1 S2))))) [3,4,9,11,12,20,23,13,5,6,10,14,15,21,24,16,7,8,26,17,18,22,25,19] (by kernel_rfl)
theorem a9g:ab [([eql 200 (c 0)],leq (c 0) 200),
([eql 200 (c 0)],leq 200 (.nat 8)),
([leq (c 0) 200,lss 200 (.nat 8)],lss 200 8),
([eql 203 (wx (.add 200 (c 1))),lss 200 (.nat 8),leq 8 (c 64)],lss (.nat (.sub (.nat 8) 203)) (.nat (.sub (.nat 8) 200))),
([eql 203 (wx (.add 200 (c 1))),leq (c 0) 200,lss 200 (.nat 8),leq 8 (c 64)],leq (c 0) 203),
([eql 203 (wx (.add 200 (c 1))),leq (c 0) 200,lss 200 (.nat 8)],leq 203 (.nat 8))]:=dS
theorem a9h:ah4.ok Tryz.prog:=ao (.cons m7 .nil) eW a9g [3,4,2,2,0,5,6,7,8] (by kernel_rfl)
theorem S4:ab [([],.imp (ex (.ite (ix (ex 1 (c 1)) 4 (.lit false)) (c 1) (.ite (ix (ex 1 (c 2)) 5 (.lit false)) (c 2) (c 0))) (c 2)) (eql 1 (c 2))),
([],.imp (ex (.ite (ix (ex 1 (c 1)) 4 (.lit false)) (c 1) (.ite (ix (ex 1 (c 2)) 5 (.lit false)) (c 2) (c 0))) (c 1)) (eql 1 (c 1)))]:=dS
theorem S5:ack.ok Tryz.prog:=ao aS.nil eW S4 [3,4] (by kernel_rfl)
theorem S6:ab [([],.imp (ix 3 1 (.lit false)) (fb (ix (ix (ix (.eqb 1 3) (ix (ex 2 2) (.lit true) (.lit false)) (.lit false)) 3 (ix (.cmp .geq (wx (.add 2 (c 1))) 4) 3 1)) (ex (.ite (ix (.eqb 1 3) (ix (ex 2 2) (.lit true) (.lit false)) (.lit false)) (c 0) (.ite (.cmp .geq (wx (.add 2 (c 1))) 4) (c 0) (wx (.add 2 (c 1))))) (c 0)) (.lit false)))),
([],.imp (ix (nx 3) (nx 1) (.lit false)) (fb (nx (ix (ix (.eqb 1 3) (ix (ex 2 2) (.lit true) (.lit false)) (.lit false)) 3 (ix (.cmp .geq (wx (.add 2 (c 1))) 4) 3 1)))))]:=s8
theorem S7:ab [([],.imp (ix (ix (nx 3) 1 (.lit false)) (ix (ex 2 (c 0)) (ex 4 (c 2)) (.lit false)) (.lit false)) (fb (ix (ix (ix (.eqb 1 3) (ix (ex 2 2) (.lit true) (.lit false)) (.lit false)) 3 (ix (.cmp .geq (wx (.add 2 (c 1))) 4) 3 1)) (ex (.ite (ix (.eqb 1 3) (ix (ex 2 2) (.lit true) (.lit false)) (.lit false)) (c 0) (.ite (.cmp .geq (wx (.add 2 (c 1))) 4) (c 0) (wx (.add 2 (c 1))))) (c 1)) (.lit false)))),
([],.imp (ix (ix (nx 3) 1 (.lit false)) (ix (ex 2 (c 1)) (ex 4 (c 2)) (.lit false)) (.lit false)) (fb (nx (ix (ix (.eqb 1 3) (ix (ex 2 2) (.lit true) (.lit false)) (.lit false)) 3 (ix (.cmp .geq (wx (.add 2 (c 1))) 4) 3 1)))))]:=by
  repeat' (first|exact .nil|refine au ?_ ?_)
  all_goals(
   intro ρ;(intro h;simp only[vS,IE.den,BE.den,LE.den]at h⊢;revert h;(try simp only[and_imp]);intros)
   cases h1:ρ.b 1<;>cases h3:ρ.b 3<;>simp_all [IntKind.wrap_i64])
theorem S9:acl.ok Tryz.prog:=ao aS.nil eW (a5t S6 S7) [3,5,6,4] (by kernel_rfl)
theorem a2q:ab [([fb (.cmp .gtr 20 (c 0)),leq 20 (c 8)],leq (c 0) (wx (.sub 20 (c 1)))),
([leq (c 0) 20,leq 20 (c 8)],lss (wx (.sub 20 (c 1))) (c 8)),
([leq (c 0) 20,leq 20 (c 8)],lss (.nat (wx (.sub 20 (c 1)))) (c 8))]:=dS
theorem a2r:af1.ok Tryz.prog:=ao aS.nil eW a2q [3,4,5,0,0,0,0] (by kernel_rfl)
theorem Sa:ab [([rx 12 [8,101,104,105,112,7,102,147,115] [2],rx 15 [8,8,(c 1)] [221,2]],rx 12 [8,101,104,105,112,7,102,(c 1),115] [221]),
([rx 12 [8,101,104,105,112,7,102,147,115] [2],rx 15 [8,8,(c 0)] [224,2]],rx 12 [8,101,104,105,112,7,102,(c 0),115] [224])]:=by
  repeat' (first|exact .nil|refine au ?_ ?_)
  all_goals(
   intro ρ h;simp only[vS,IE.den,BE.den,LE.den]at h⊢
   obtain⟨h0,h1⟩:=h
   try simp only[IntKind.wrap_i64]at*
   refine⟨fun a ha=>?_,fun a b ha hb=>?_⟩
   ·first|have xa0:=h0.1 a ha|have xa0:=True.intro
    first|have xa1:=h1 a ha|have xa1:=True.intro
    try simp only[aC,fR,xh,XE,ae]at xa0 xa1⊢
    grind
   ·first|have z0:=h0.2 a b ha hb|have z0:=True.intro
    first|have xa0:=h0.1 a ha|have xa0:=True.intro
    first|have xa1:=h1 a ha|have xa1:=True.intro
    first|have xb0:=h0.1 b hb|have xb0:=True.intro
    first|have xb1:=h1 b hb|have xb1:=True.intro
    try simp only[aC,fR,xh,XE,ae]at z0 xa0 xa1 xb0 xb1⊢
    grind)
theorem Sb:ab [([rx 13 [8,147,115] [2],rx 15 [8,8,(c 1)] [221,2]],rx 13 [8,(c 1),115] [221])]:=by
 repeat' (first|exact .nil|refine au ?_ ?_)
 all_goals(
  intro ρ h;simp only[vS,IE.den,BE.den,LE.den]at h⊢
  obtain⟨h0,h1⟩:=h
  try simp only[IntKind.wrap_i64]at*
  intro a ha
  first|have xa0:=h0 a ha|have xa0:=True.intro
  first|have xa1:=h1 a ha|have xa1:=True.intro
  try simp only[aC,fR,xh,XE,ae]at xa0 xa1⊢
  grind)
theorem Sc:ab [([rx 15 [8,8,(c 1)] [221,2]],rx 14 [8] [2,221]),
([rx 13 [8,147,115] [2]],rx 13 [8,(c 2),115] [2]),
([rx 13 [8,147,115] [2]],rx 13 [8,(c 3),115] [2]),
([rx 13 [8,147,115] [2]],rx 13 [8,(c 2),115] [2]),
([rx 13 [8,147,115] [2]],rx 13 [8,(c 1),115] [2]),
([rx 15 [8,8,(c 0)] [224,2]],rx 14 [8] [2,224])]:=by
  repeat' (first|exact .nil|refine au ?_ ?_)
  all_goals(
   intro ρ h;simp only[vS,IE.den,BE.den,LE.den]at h⊢
   have h0:=h
   try simp only[IntKind.wrap_i64]at*
   intro a ha
   first|have xa0:=h0 a ha|have xa0:=True.intro
   try simp only[aC,fR,xh,XE,ae]at xa0⊢
   grind)
theorem Sd:ab [([],.imp (.lit false) (.imp (.cmp .neq 147 (c 0)) (rx 6 [8] [221]))),
([],.imp (.lit false) (.imp (.cmp .neq 147 (c 0)) (rx 6 [8] [2]))),
([],.imp (.lit false) (.imp (.cmp .neq 147 (c 0)) (rx 6 [8] [2]))),
([],.imp (.lit false) (.imp (.cmp .neq 147 (c 0)) (rx 6 [8] [2]))),
([],.imp (.lit false) (.imp (.cmp .neq 147 (c 0)) (rx 6 [8] [2]))),
([],.imp (ex 147 (c 0)) (.imp (.cmp .neq 147 (c 0)) (rx 6 [8] [2])))]:=kj
theorem Se:ab [([fb (ix (ex 147 (c 0)) (nx 214) (.lit false))],.imp (ix (ex 147 (c 0)) 214 (.lit false)) (fb (.lit false))),
([],.imp (ix (ex 147 (c 0)) (nx 214) (.lit false)) (fb (.lit true))),
([fb (ix (ex 147 (c 0)) (nx 214) (.lit false))],.imp (ix (ex 147 (c 1)) (ex 115 (c 2)) (.lit false)) (fb (.lit false))),
([],.imp (ix (ix (ex 147 (c 1)) (.cmp .neq 115 (c 2)) (.lit false)) (nx 214) (.lit false)) (fb (.lit true))),
([fb (ix (ex 147 (c 0)) (nx 214) (.lit false))],.imp (ix (ex 147 (c 2)) (nx 214) (.lit false)) (fb (.lit false))),
([fb (ix (ex 147 (c 1)) (ex 115 (c 2)) (.lit false))],.imp (ix (ex 147 (c 0)) 214 (.lit false)) (fb (.lit false))),
([fb (nx (ix (ex 147 (c 0)) (nx 214) (.lit false)))],.imp (ix (ex 147 (c 0)) (nx 214) (.lit false)) (fb (.lit false))),
([],.imp (ix (ex 147 (c 1)) (ex 115 (c 2)) (.lit false)) (fb (.lit true))),
([fb (ix (ex 147 (c 1)) (ex 115 (c 2)) (.lit false))],.imp (ix (ix (ex 147 (c 1)) (.cmp .neq 115 (c 2)) (.lit false)) (nx 214) (.lit false)) (fb (.lit false))),
([],.imp (ix (ex 147 (c 2)) (nx 214) (.lit false)) (fb (.lit true))),
([fb (ix (ex 147 (c 2)) 214 (.lit false))],.imp (ix (ex 147 (c 0)) 214 (.lit false)) (fb (.lit false))),
([fb (nx (ix (ex 147 (c 0)) (nx 214) (.lit false)))],.imp (ix (ex 147 (c 0)) (nx 214) (.lit false)) (fb (.lit false))),
([fb (nx (ix (ex 147 (c 1)) (ex 115 (c 2)) (.lit false)))],.imp (ix (ex 147 (c 1)) (ex 115 (c 2)) (.lit false)) (fb (.lit false))),
([fb (ix (ex 147 (c 2)) 214 (.lit false))],.imp (ix (ix (ex 147 (c 1)) (.cmp .neq 115 (c 2)) (.lit false)) (nx 214) (.lit false)) (fb (.lit false))),
([fb (ix (ex 147 (c 2)) 214 (.lit false))],.imp (ix (ex 147 (c 2)) (nx 214) (.lit false)) (fb (.lit false))),
([fb (ix (ex 147 (c 3)) (nx 214) (.lit false))],.imp (ix (ex 147 (c 0)) 214 (.lit false)) (fb (.lit false))),
([fb (nx (ix (ex 147 (c 0)) (nx 214) (.lit false)))],.imp (ix (ex 147 (c 0)) (nx 214) (.lit false)) (fb (.lit false))),
([],.imp (ix (ex 147 (c 1)) (ex 115 (c 2)) (.lit false)) (fb (.lit true))),
([fb (ix (ex 147 (c 3)) (nx 214) (.lit false))],.imp (ix (ix (ex 147 (c 1)) (.cmp .neq 115 (c 2)) (.lit false)) (nx 214) (.lit false)) (fb (.lit false))),
([],.imp (ix (ex 147 (c 2)) (nx 214) (.lit false)) (fb (.lit true))),
([fb (ix (ex 147 (c 3)) (nx 214) (.lit false))],.imp (ix (ex 147 (c 0)) 214 (.lit false)) (fb (.lit false))),
([],.imp (ix (ex 147 (c 0)) (nx 214) (.lit false)) (fb (.lit true))),
([fb (nx (ix (ex 147 (c 1)) (ex 115 (c 2)) (.lit false)))],.imp (ix (ex 147 (c 1)) (ex 115 (c 2)) (.lit false)) (fb (.lit false))),
([],.imp (ix (ix (ex 147 (c 1)) (.cmp .neq 115 (c 2)) (.lit false)) (nx 214) (.lit false)) (fb (.lit true))),
([fb (ix (ex 147 (c 3)) (nx 214) (.lit false))],.imp (ix (ex 147 (c 2)) (nx 214) (.lit false)) (fb (.lit false))),
([],.imp (ix (ex 147 (c 0)) 214 (.lit false)) (fb (.lit true))),
([fb (nx (ix (ex 147 (c 0)) (nx 214) (.lit false)))],.imp (ix (ex 147 (c 0)) (nx 214) (.lit false)) (fb (.lit false))),
([fb (nx (ix (ex 147 (c 1)) (ex 115 (c 2)) (.lit false)))],.imp (ix (ex 147 (c 1)) (ex 115 (c 2)) (.lit false)) (fb (.lit false))),
([fb (ix (ix (ex 147 (c 1)) (.lit true) (ex 147 (c 3))) (ix (ix 214 (ex 115 (c 1)) (.lit false)) (nx 218) (.lit false)) (.lit false))],.imp (ix (ix (ex 147 (c 1)) (.cmp .neq 115 (c 2)) (.lit false)) (nx 214) (.lit false)) (fb (.lit false))),
([fb (ix (ix (ex 147 (c 1)) (.lit true) (ex 147 (c 3))) (ix (ix 214 (ex 115 (c 1)) (.lit false)) (nx 218) (.lit false)) (.lit false))],.imp (ix (ex 147 (c 2)) (nx 214) (.lit false)) (fb (.lit false))),
([],.imp (ix (ex 147 (c 0)) 214 (.lit false)) (eql 147 (c 0))),
([fb (nx (ix (ex 147 (c 0)) (nx 214) (.lit false)))],.imp (ix (ex 147 (c 0)) (nx 214) (.lit false)) (eql 147 (c 1))),
([fb (nx (ix (ex 147 (c 1)) (ex 115 (c 2)) (.lit false)))],.imp (ix (ex 147 (c 1)) (ex 115 (c 2)) (.lit false)) (eql 147 (c 2))),
([],.imp (ix (ix (ex 147 (c 1)) (.cmp .neq 115 (c 2)) (.lit false)) (nx 214) (.lit false)) (eql 147 (c 1))),
([],.imp (ix (ex 147 (c 2)) (nx 214) (.lit false)) (eql 147 (c 2)))]:=s8
theorem Sf:ab [([rx 15 [8,8,(c 1)] [221,2]],.imp (ix (ex 147 (c 0)) (nx 214) (.lit false)) (rx 6 [8] [221]))]:=by
 repeat' (first|exact .nil|refine au ?_ ?_)
 all_goals(
  intro ρ h;simp only[vS,IE.den,BE.den,LE.den]at h⊢
  have h0:=h
  try simp only[IntKind.wrap_i64]at*
  intro hc
  intro a ha
  first|have xa0:=h0 a ha|have xa0:=True.intro
  try simp only[aC,fR,xh,XE,ae]at xa0⊢
  grind)
theorem Sg:ab [([rx 12 [8,101,104,105,112,7,102,147,115] [2],fb (ix (ex 147 (c 1)) (ex 115 (c 2)) (.lit false))],rx 12 [8,101,104,105,112,7,102,(c 2),115] [2]),
([rx 12 [8,101,104,105,112,7,102,147,115] [2],fb (ix (ex 147 (c 2)) 214 (.lit false))],rx 12 [8,101,104,105,112,7,102,(c 3),115] [2]),
([rx 12 [8,101,104,105,112,7,102,147,115] [2],fb (ix (ex 147 (c 3)) (nx 214) (.lit false))],rx 12 [8,101,104,105,112,7,102,(c 2),115] [2]),
([rx 12 [8,101,104,105,112,7,102,147,115] [2],fb (ix (ex 147 (c 3)) (nx 214) (.lit false))],rx 12 [8,101,104,105,112,7,102,(c 1),115] [2])]:=by
  repeat' (first|exact .nil|refine au ?_ ?_)
  all_goals(
   intro ρ h;simp only[vS,IE.den,BE.den,LE.den]at h⊢
   obtain⟨h0,h1⟩:=h
   try simp only[IntKind.wrap_i64]at*
   refine⟨fun a ha=>?_,fun a b ha hb=>?_⟩
   ·first|have xa0:=h0.1 a ha|have xa0:=True.intro
    try simp only[aC,fR,xh,XE,ae]at xa0⊢
    grind
   ·first|have z0:=h0.2 a b ha hb|have z0:=True.intro
    first|have xa0:=h0.1 a ha|have xa0:=True.intro
    first|have xb0:=h0.1 b hb|have xb0:=True.intro
    try simp only[aC,fR,xh,XE,ae]at z0 xa0 xb0⊢
    grind)
theorem Sh:ab [([],rx 14 [8] [2,2]),
([],rx 14 [8] [2,2]),
([],rx 14 [8] [2,2]),
([],rx 14 [8] [2,2]),
([],rx 14 [8] [2,2])]:=by
  repeat' (first|exact .nil|refine au ?_ ?_)
  all_goals(
   intro ρ h;simp only[vS,IE.den,BE.den,LE.den]at h⊢
   try simp only[IntKind.wrap_i64]at*
   intro a ha
   try simp only[aC,fR,xh,XE,ae]at⊢
   grind)
theorem Si:ab [([fb (nx (ix (ex 147 (c 0)) (nx 214) (.lit false)))],.imp (ix (ex 147 (c 0)) (nx 214) (.lit false)) (rx 6 [8] [2])),
([fb (nx (ix (ex 147 (c 0)) (nx 214) (.lit false)))],.imp (ix (ex 147 (c 0)) (nx 214) (.lit false)) (rx 6 [8] [2])),
([fb (nx (ix (ex 147 (c 0)) (nx 214) (.lit false)))],.imp (ix (ex 147 (c 0)) (nx 214) (.lit false)) (rx 6 [8] [2])),
([fb (nx (ix (ex 147 (c 0)) (nx 214) (.lit false)))],.imp (ix (ex 147 (c 0)) (nx 214) (.lit false)) (rx 6 [8] [2])),
([fb (nx (ix (ex 147 (c 0)) (nx 214) (.lit false)))],.imp (ix (ex 147 (c 0)) (nx 214) (.lit false)) (rx 6 [8] [224])),
([fb (nx (ix (ex 147 (c 0)) (nx 214) (.lit false)))],.imp (ix (ex 147 (c 0)) (nx 214) (.lit false)) (rx 6 [8] [2]))]:=by
  repeat' (first|exact .nil|refine au ?_ ?_)
  all_goals(
   intro ρ h;simp only[vS,IE.den,BE.den,LE.den]at h⊢
   have h0:=h
   try simp only[IntKind.wrap_i64]at*
   intro hc
   intro a ha
   try simp only[aC,fR,xh,XE,ae]at⊢
   grind)
theorem Sj:ab [([rx 13 [8,147,115] [2],rx 15 [8,8,(c 0)] [224,2],fb (ix (ix (ex 147 (c 1)) (.lit true) (ex 147 (c 3))) (ix (ix 214 (ex 115 (c 1)) (.lit false)) (nx 218) (.lit false)) (.lit false))],rx 13 [8,(c 0),115] [224])]:=by
 repeat' (first|exact .nil|refine au ?_ ?_)
 all_goals(
  intro ρ h;simp only[vS,IE.den,BE.den,LE.den]at h⊢
  obtain⟨h0,h1,h2⟩:=h
  try simp only[IntKind.wrap_i64]at*
  intro a ha
  first|have xa0:=h0 a ha|have xa0:=True.intro
  first|have xa1:=h1 a ha|have xa1:=True.intro
  try simp only[aC,fR,xh,XE,ae]at xa0 xa1⊢
  grind)
theorem Jn:ab [([rx 15 [8,8,(c 0)] [224,2]],.imp (.lit true) (.imp (.cmp .neq 147 (c 0)) (rx 6 [8] [224])))]:=qR
theorem Sk:acm.ok Tryz.prog:=ao (.cons a9h (.cons Ob (.cons S5 (.cons S9 (.cons a2r .nil))))) eW (a5t Sa (a5t Sb (a5t Sc (a5t Sd (a5t Se (a5t Sf (a5t Sg (a5t Sh (a5t Si (a5t Sj Jn)))))))))) [3,5,6,2,2,12,2,2,2,2,18,19,53,20,21,22,54,7,58,2,2,13,2,2,2,2,23,24,63,25,26,27,55,8,58,2,2,13,2,2,2,2,28,24,63,30,31,32,56,7,58,2,2,13,2,2,2,2,33,24,63,25,36,27,57,10,58,2,2,13,2,2,2,2,33,19,63,30,21,42,4,69,11,2,2,70,2,2,2,2,43,24,67,30,46,47,2,2,58,2,2,17,2,2,2,2,48,49,63,50,51,52] (by kernel_rfl)
theorem ab6:ab [([eql 201 (c 0)],rx 25 [201] [2]),
([eql 5202 (c 0)],rx 24 [5201,5202] [2]),
([rx 24 [5201,5202] [2]],leq (c 0) 5202),
([rx 24 [5201,5202] [2]],lss 5202 (c 18446744073709551616)),
([rx 11 [10202,(.bits .xor .u64 (c 18446744073709551615) 5202),(c 0)] [],fb (.cmp .neq 10202 (c (-1)))],leq (c 0) 10202),
([leq (c 0) 201,fb (nx (.cmp .geq 201 (c 0)))],.imp (.lit true) (rx 25 [8] [2])),
([rx 6 [8] [2]],.imp (.lit true) (rx 6 [8] [2])),
([],.imp (.lit false) (rx 25 [8] [(ux 10245 10202 9 (c 2))])),
([],.imp (.lit false) (rx 6 [8] [(ux 10245 10202 9 (c 2))])),
([],.imp (.lit false) (rx 25 [8] [10205])),
([],.imp (.lit false) (rx 6 [8] [10205])),
([],.imp (.lit false) (rx 25 [8] [2])),
([],.imp (.lit false) (rx 6 [8] [2])),
([rx 25 [201] [2],fb (nx (lx 201 (.nat 8)))],.imp (.lit true) (rx 25 [8] [2])),
([rx 6 [8] [2]],.imp (.lit true) (rx 6 [8] [2]))]:=kj
theorem ab8:ab [([eql 201 (c 0)],leq (c 0) 201),
([eql 201 (c 0)],leq 201 (.nat 8)),
([eql 202 (wx (.add 201 (c 1))),lss 201 (.nat 8),leq 8 (c 64)],lss (.nat (.sub (.nat 8) 202)) (.nat (.sub (.nat 8) 201))),
([eql 202 (wx (.add 201 (c 1))),leq (c 0) 201,lss 201 (.nat 8),leq 8 (c 64)],leq (c 0) 202),
([eql 202 (wx (.add 201 (c 1))),leq (c 0) 201,lss 201 (.nat 8)],leq 202 (.nat 8)),
([eql 5201 (c 0)],leq (c 0) 5201),
([eql 5201 (c 0)],leq 5201 (.nat 8)),
([leq (c 0) 5201,lss 5201 (.nat 8)],lss 5201 8),
([eql 5207 (wx (.add 5201 (c 1))),lss 5201 (.nat 8),leq 8 (c 64)],lss (.nat (.sub (.nat 8) 5207)) (.nat (.sub (.nat 8) 5201))),
([eql 5207 (wx (.add 5201 (c 1))),leq (c 0) 5201,leq 5201 (.nat 8),leq 8 (c 64)],leq (c 0) 5207),
([eql 5207 (wx (.add 5201 (c 1))),leq (c 0) 5201,lss 5201 (.nat 8)],leq 5207 (.nat 8)),
([eql 5209 (wx (.add 5201 (c 1))),lss 5201 (.nat 8),leq 8 (c 64)],lss (.nat (.sub (.nat 8) 5209)) (.nat (.sub (.nat 8) 5201))),
([eql 5209 (wx (.add 5201 (c 1))),leq (c 0) 5201,lss 5201 (.nat 8),leq 8 (c 64)],leq (c 0) 5209),
([eql 5209 (wx (.add 5201 (c 1))),leq (c 0) 5201,lss 5201 (.nat 8)],leq 5209 (.nat 8))]:=dS
theorem abu:ab [([eql 202 (wx (.add 201 (c 1))),rx 25 [201] [2],leq (c 0) 201,leq 201 (.nat 8),fb (nx (ix (ex (gx 2 201 9) (c 1)) (.lit true) (ex (gx 2 201 9) (c 2)))),lss 201 (.nat 8),leq (c 0) 8,leq 8 (c 64),rx 16 [101,102,104,105,106,107,108,109,110,111,112,8,7,5,6] [],rx 12 [8,101,104,105,112,7,102,147,115] [2],rx 13 [8,147,115] [2],eql 147 (c 2),eql 115 (c 2),rx 6 [8] [2],rx 18 [7] [3],rx 7 [9,8] [9]],rx 25 [202] [2])]:=by
 repeat' (first|exact .nil|refine au ?_ ?_)
 all_goals(
  intro ρ h;simp only[vS,IE.den,BE.den,LE.den]at h⊢
  obtain⟨h0,h1,h2,h3,h4,h5⟩:=h
  simp only[IntKind.wrap_i64]at h0
  intro a ha
  by_cases e:a=(ρ.i 201).toNat
  ·subst e;simp only[vR]at h1;grind
  ·exact h1 a (by omega))
theorem aby:ab [([eql 5207 (wx (.add 5201 (c 1))),eql 5208 5206,rx 19 [5206,5202,5201] [],.imp (ix (ix (ex (gx 2 5201 9) (c 1)) (ex (gx 2 5201 10) (c 1)) (.lit false)) (ex (gx 2 5201 1) (c 0)) (.lit false)) (.imp 5204 (fb (.cmp .neq 147 (c 0)))),.imp (ix (ix (ex (gx 2 5201 9) (c 1)) (ex (gx 2 5201 10) (c 1)) (.lit false)) (ex (gx 2 5201 1) (c 0)) (.lit false)) (.imp 5204 (.imp (.cmp .neq (.rem (gx 2 5201 0) (c 8)) (c 0)) (leq 111 (gx 2 5201 5)))),rx 24 [5201,5202] [2],leq (c 0) 5201,leq 5201 (.nat 8),fb (ix (ix (ix (ex (gx 2 5201 9) (c 1)) (ex (gx 2 5201 10) (c 1)) (.lit false)) (ex (gx 2 5201 1) (c 0)) (.lit false)) (nx 5204) (.lit false)),lss 5201 (.nat 8),rx 25 [201] [2],leq (c 0) 201,leq 201 (.nat 8),fb (.cmp .geq 201 (c 0)),fb (ix (ex (gx 2 201 9) (c 1)) (.lit true) (ex (gx 2 201 9) (c 2))),lss 201 (.nat 8),leq (c 0) 8,leq 8 (c 64),rx 16 [101,102,104,105,106,107,108,109,110,111,112,8,7,5,6] [],rx 12 [8,101,104,105,112,7,102,147,115] [2],rx 13 [8,147,115] [2],eql 147 (c 2),eql 115 (c 2),rx 6 [8] [2],rx 18 [7] [3],rx 7 [9,8] [9]],rx 24 [5207,5208] [2])]:=by
 repeat' (first|exact .nil|refine au ?_ ?_)
 all_goals(
  intro ρ h;simp only[vS,IE.den,BE.den,LE.den]at h⊢
  obtain⟨h0,h1,h2,h3,h4,h5,h6,h7,h8,h9,h10⟩:=h
  simp only[IntKind.wrap_i64]at h0
  have hn:ρ.i 5207=ρ.i 5201+1:=by omega
  obtain⟨q0,q1⟩:=h2
  refine⟨by rw[h1];exact q0,fun k hk=>?_⟩
  rw[h1]at hk
  have q:=q1 k hk
  have r:=h5.2 k
  clear h10 h3 h4
  by_cases e:k=(ρ.i 5201).toNat
  ·subst e;grind
  ·grind)
theorem ac3:ab [([eql 5209 (wx (.add 5201 (c 1))),eql 5210 5202,.imp (ix (ix (ex (gx 2 5201 9) (c 1)) (ex (gx 2 5201 10) (c 1)) (.lit false)) (ex (gx 2 5201 1) (c 0)) (.lit false)) (.imp 5204 (fb (.cmp .neq 147 (c 0)))),.imp (ix (ix (ex (gx 2 5201 9) (c 1)) (ex (gx 2 5201 10) (c 1)) (.lit false)) (ex (gx 2 5201 1) (c 0)) (.lit false)) (.imp 5204 (.imp (.cmp .neq (.rem (gx 2 5201 0) (c 8)) (c 0)) (leq 111 (gx 2 5201 5)))),rx 24 [5201,5202] [2],leq (c 0) 5201,leq 5201 (.nat 8),fb (nx (ix (ix (ix (ex (gx 2 5201 9) (c 1)) (ex (gx 2 5201 10) (c 1)) (.lit false)) (ex (gx 2 5201 1) (c 0)) (.lit false)) (nx 5204) (.lit false))),lss 5201 (.nat 8),rx 25 [201] [2],leq (c 0) 201,leq 201 (.nat 8),fb (.cmp .geq 201 (c 0)),fb (ix (ex (gx 2 201 9) (c 1)) (.lit true) (ex (gx 2 201 9) (c 2))),lss 201 (.nat 8),leq (c 0) 8,leq 8 (c 64),rx 16 [101,102,104,105,106,107,108,109,110,111,112,8,7,5,6] [],rx 12 [8,101,104,105,112,7,102,147,115] [2],rx 13 [8,147,115] [2],eql 147 (c 2),eql 115 (c 2),rx 6 [8] [2],rx 18 [7] [3],rx 7 [9,8] [9]],rx 24 [5209,5210] [2])]:=by
 repeat' (first|exact .nil|refine au ?_ ?_)
 all_goals(
  intro ρ h;simp only[vS,IE.den,BE.den,LE.den]at h⊢
  obtain⟨h0,h1,h2,h3,h4,h5,h6,h7,h8,h9⟩:=h
  simp only[IntKind.wrap_i64]at h0
  have hn:ρ.i 5209=ρ.i 5201+1:=by omega
  refine⟨by rw[h1];exact h4.1,fun k hk=>?_⟩
  rw[h1]at hk
  have r:=h4.2 k hk
  clear h9 h3 h2 h7
  grind)
theorem adg:ab [([rx 16 [101,102,104,105,106,107,108,109,110,111,112,8,7,5,6] []],leq (c 0) 6),
([rx 16 [101,102,104,105,106,107,108,109,110,111,112,8,7,5,6] []],leq 6 (c 1000000)),
([rx 16 [101,102,104,105,106,107,108,109,110,111,112,8,7,5,6] []],leq (c 0) 102),
([rx 16 [101,102,104,105,106,107,108,109,110,111,112,8,7,5,6] []],leq 102 (c 31))]:=lm
theorem ads:ab [([rx 24 [5201,5202] [2],leq (c 0) 5201,leq 5201 (.nat 8),rx 25 [201] [2],leq (c 0) 201,leq 201 (.nat 8),fb (nx (lx 5201 (.nat 8))),fb (.cmp .geq 201 (c 0)),fb (ix (ex (gx 2 201 9) (c 1)) (.lit true) (ex (gx 2 201 9) (c 2))),lss 201 (.nat 8),leq (c 0) 8,leq 8 (c 64),rx 16 [101,102,104,105,106,107,108,109,110,111,112,8,7,5,6] [],rx 12 [8,101,104,105,112,7,102,147,115] [2],rx 13 [8,147,115] [2],eql 147 (c 2),eql 115 (c 2),rx 6 [8] [2],rx 18 [7] [3],rx 7 [9,8] [9]],leq (c 0) (.bits .xor .u64 (c 18446744073709551615) 5202))]:=by
 repeat' (first|exact .nil|refine au ?_ ?_)
 all_goals(
  intro ρ;(intro h;simp only[vS,IE.den,BE.den,LE.den]at h⊢;revert h;(try simp only[and_imp]);intros);exact(ew _ _ _).1)
theorem adt:ab [([rx 24 [5201,5202] [2],leq (c 0) 5201,leq 5201 (.nat 8),rx 25 [201] [2],leq (c 0) 201,leq 201 (.nat 8),fb (nx (lx 5201 (.nat 8))),fb (.cmp .geq 201 (c 0)),fb (ix (ex (gx 2 201 9) (c 1)) (.lit true) (ex (gx 2 201 9) (c 2))),lss 201 (.nat 8),leq (c 0) 8,leq 8 (c 64),rx 16 [101,102,104,105,106,107,108,109,110,111,112,8,7,5,6] [],rx 12 [8,101,104,105,112,7,102,147,115] [2],rx 13 [8,147,115] [2],eql 147 (c 2),eql 115 (c 2),rx 6 [8] [2],rx 18 [7] [3],rx 7 [9,8] [9]],lss (.bits .xor .u64 (c 18446744073709551615) 5202) (c 18446744073709551616))]:=by
 repeat' (first|exact .nil|refine au ?_ ?_)
 all_goals(
  intro ρ;(intro h;simp only[vS,IE.den,BE.den,LE.den]at h⊢;revert h;(try simp only[and_imp]);intros);exact(ew _ _ _).2)
theorem adu:ab [([rx 11 [10202,(.bits .xor .u64 (c 18446744073709551615) 5202),(c 0)] [],rx 24 [5201,5202] [2],leq (c 0) 5201,leq 5201 (.nat 8),rx 25 [201] [2],leq (c 0) 201,leq 201 (.nat 8),fb (.cmp .neq 10202 (c (-1))),fb (nx (lx 5201 (.nat 8))),fb (.cmp .geq 201 (c 0)),fb (ix (ex (gx 2 201 9) (c 1)) (.lit true) (ex (gx 2 201 9) (c 2))),lss 201 (.nat 8),leq (c 0) 8,leq 8 (c 64),rx 16 [101,102,104,105,106,107,108,109,110,111,112,8,7,5,6] [],rx 12 [8,101,104,105,112,7,102,147,115] [2],rx 13 [8,147,115] [2],eql 147 (c 2),eql 115 (c 2),rx 6 [8] [2],rx 18 [7] [3],rx 7 [9,8] [9]],lss 10202 8),
([rx 27 [8,8,(c (-1))] [10245,10205],.imp 10204 (rx 26 [8,10202,102] [10205,2]),.imp (nx 10204) (rx 28 [8] [10205,2]),rx 18 [7] [10206],rx 7 [10212,8] [10212],rx 11 [10202,(.bits .xor .u64 (c 18446744073709551615) 5202),(c 0)] [],rx 24 [5201,5202] [2],leq (c 0) 5201,leq 5201 (.nat 8),rx 25 [201] [2],leq (c 0) 201,leq 201 (.nat 8),fb (ix (.cmp .neq 10202 (c (-1))) 10204 (.lit false)),fb (.cmp .neq 10202 (c (-1))),fb (nx (lx 5201 (.nat 8))),fb (.cmp .geq 201 (c 0)),fb (ix (ex (gx 2 201 9) (c 1)) (.lit true) (ex (gx 2 201 9) (c 2))),lss 201 (.nat 8),leq (c 0) 8,leq 8 (c 64),rx 16 [101,102,104,105,106,107,108,109,110,111,112,8,7,5,6] [],rx 12 [8,101,104,105,112,7,102,147,115] [2],rx 13 [8,147,115] [2],eql 147 (c 2),eql 115 (c 2),rx 6 [8] [2],rx 18 [7] [3],rx 7 [9,8] [9]],lss 10202 (.nat 8)),
([rx 27 [8,8,(c (-1))] [10245,10205],.imp 10204 (rx 26 [8,10202,102] [10205,2]),.imp (nx 10204) (rx 28 [8] [10205,2]),rx 18 [7] [10206],rx 7 [10212,8] [10212],rx 11 [10202,(.bits .xor .u64 (c 18446744073709551615) 5202),(c 0)] [],rx 24 [5201,5202] [2],leq (c 0) 5201,leq 5201 (.nat 8),rx 25 [201] [2],leq (c 0) 201,leq 201 (.nat 8),fb (ix (.cmp .neq 10202 (c (-1))) 10204 (.lit false)),fb (.cmp .neq 10202 (c (-1))),fb (nx (lx 5201 (.nat 8))),fb (.cmp .geq 201 (c 0)),fb (ix (ex (gx 2 201 9) (c 1)) (.lit true) (ex (gx 2 201 9) (c 2))),lss 201 (.nat 8),leq (c 0) 8,leq 8 (c 64),rx 16 [101,102,104,105,106,107,108,109,110,111,112,8,7,5,6] [],rx 12 [8,101,104,105,112,7,102,147,115] [2],rx 13 [8,147,115] [2],eql 147 (c 2),eql 115 (c 2),rx 6 [8] [2],rx 18 [7] [3],rx 7 [9,8] [9]],lss (.nat 10202) (.nat 8))]:=by
  repeat' (first|exact .nil|refine au ?_ ?_)
  all_goals(
   intro ρ;(intro h;simp only[vS,IE.den,BE.den,LE.den]at h⊢;revert h;(try simp only[and_imp]);intros);have hc:=tK (r:=ρ.i 10202) (x:=ρ.i 5202) (n:=ρ.i 5201) (l:=ρ.l 2) (by assumption) (by assumption) (by assumption);obtain⟨c0,c1,_⟩:=hc;omega)
theorem adv:ab [([],rx 14 [8] [2,2]),
([],rx 14 [8] [2,2]),
([],rx 14 [8] [2,2])]:=qR
theorem a63:ab [([leq (c 0) 8,leq 8 (c 64),rx 16 [101,102,104,105,106,107,108,109,110,111,112,8,7,5,6] [],rx 12 [8,101,104,105,112,7,102,147,115] [2],rx 13 [8,147,115] [2],eql 147 (c 2),eql 115 (c 2),rx 6 [8] [2],rx 18 [7] [3],rx 7 [9,8] [9],rx 27 [8,8,(c (-1))] [10245,10205],.imp 10204 (rx 26 [8,10202,102] [10205,2]),.imp (nx 10204) (rx 28 [8] [10205,2]),rx 18 [7] [10206],rx 7 [10212,8] [10212],rx 11 [10202,(.bits .xor .u64 (c 18446744073709551615) 5202),(c 0)] [],rx 24 [5201,5202] [2],leq (c 0) 5201,leq 5201 (.nat 8),rx 25 [201] [2],leq (c 0) 201,leq 201 (.nat 8),fb (ix (.cmp .neq 10202 (c (-1))) 10204 (.lit false)),fb (.cmp .neq 10202 (c (-1))),fb (nx (lx 5201 (.nat 8))),fb (.cmp .geq 201 (c 0)),fb (ix (ex (gx 2 201 9) (c 1)) (.lit true) (ex (gx 2 201 9) (c 2))),lss 201 (.nat 8)],rx 12 [8,101,104,105,112,7,102,147,115] [(ux 10245 10202 9 (c 2))])]:=by
 repeat' (first|exact .nil|refine au ?_ ?_)
 all_goals(
  intro ρ;(intro h;simp only[vS,IE.den,BE.den,LE.den]at h⊢;revert h;(try simp only[and_imp]);intros)
  have hc:=tK (r:=ρ.i 10202) (x:=ρ.i 5202) (n:=ρ.i 5201) (l:=ρ.l 2) (by assumption) (by assumption) (by omega)
  obtain⟨c0,c1,c2,c3,c4⟩:=hc
  have hcf:=(by assumption:ac 13 [ρ.i 101,ρ.i 102,ρ.i 104,ρ.i 105,ρ.i 106,ρ.i 107,ρ.i 108,ρ.i 109,ρ.i 110,ρ.i 111,ρ.i 112,ρ.i 8,ρ.i 7,ρ.i 5,ρ.i 6] [])
  have hb:ρ.b 10204=true:=by grind
  have htk:ac 23 [ρ.i 8,ρ.i 10202,ρ.i 102] [ρ.l 10205,ρ.l 2]:=(by assumption:ρ.b 10204=true→ac 23 [ρ.i 8,ρ.i 10202,ρ.i 102] [ρ.l 10205,ρ.l 2]) hb
  simp only[ac,aV]at hcf
  exact(tS (l:=ρ.l 2) (l1:=ρ.l 10205) (l':=ρ.l 10245) (by assumption) htk (by assumption) (by assumption) (by assumption) (by assumption) (by assumption) (by omega) c0 (by omega) c2 c3).1)
theorem a6v:ab [([leq (c 0) 8,leq 8 (c 64),rx 16 [101,102,104,105,106,107,108,109,110,111,112,8,7,5,6] [],rx 12 [8,101,104,105,112,7,102,147,115] [2],rx 13 [8,147,115] [2],eql 147 (c 2),eql 115 (c 2),rx 6 [8] [2],rx 18 [7] [3],rx 7 [9,8] [9],rx 27 [8,8,(c (-1))] [10245,10205],.imp 10204 (rx 26 [8,10202,102] [10205,2]),.imp (nx 10204) (rx 28 [8] [10205,2]),rx 18 [7] [10206],rx 7 [10212,8] [10212],rx 11 [10202,(.bits .xor .u64 (c 18446744073709551615) 5202),(c 0)] [],rx 24 [5201,5202] [2],leq (c 0) 5201,leq 5201 (.nat 8),rx 25 [201] [2],leq (c 0) 201,leq 201 (.nat 8),fb (ix (.cmp .neq 10202 (c (-1))) 10204 (.lit false)),fb (.cmp .neq 10202 (c (-1))),fb (nx (lx 5201 (.nat 8))),fb (.cmp .geq 201 (c 0)),fb (ix (ex (gx 2 201 9) (c 1)) (.lit true) (ex (gx 2 201 9) (c 2))),lss 201 (.nat 8)],rx 13 [8,147,115] [(ux 10245 10202 9 (c 2))])]:=by
 repeat' (first|exact .nil|refine au ?_ ?_)
 all_goals(
  intro ρ;(intro h;simp only[vS,IE.den,BE.den,LE.den]at h⊢;revert h;(try simp only[and_imp]);intros)
  have hc:=tK (r:=ρ.i 10202) (x:=ρ.i 5202) (n:=ρ.i 5201) (l:=ρ.l 2) (by assumption) (by assumption) (by omega)
  obtain⟨c0,c1,c2,c3,c4⟩:=hc
  have hcf:=(by assumption:ac 13 [ρ.i 101,ρ.i 102,ρ.i 104,ρ.i 105,ρ.i 106,ρ.i 107,ρ.i 108,ρ.i 109,ρ.i 110,ρ.i 111,ρ.i 112,ρ.i 8,ρ.i 7,ρ.i 5,ρ.i 6] [])
  have hb:ρ.b 10204=true:=by grind
  have htk:ac 23 [ρ.i 8,ρ.i 10202,ρ.i 102] [ρ.l 10205,ρ.l 2]:=(by assumption:ρ.b 10204=true→ac 23 [ρ.i 8,ρ.i 10202,ρ.i 102] [ρ.l 10205,ρ.l 2]) hb
  simp only[ac,aV]at hcf
  exact(tS (l:=ρ.l 2) (l1:=ρ.l 10205) (l':=ρ.l 10245) (by assumption) htk (by assumption) (by assumption) (by assumption) (by assumption) (by assumption) (by omega) c0 (by omega) c2 c3).2)
theorem a6y:ab [([rx 27 [8,8,(c (-1))] [10245,10205],.imp 10204 (rx 26 [8,10202,102] [10205,2]),.imp (nx 10204) (rx 28 [8] [10205,2])],rx 14 [8] [2,(ux 10245 10202 9 (c 2))])]:=by
 repeat' (first|exact .nil|refine au ?_ ?_)
 all_goals(
  intro ρ h;simp only[vS,IE.den,BE.den,LE.den]at h⊢
  intro a ha
  try have:=h.1 a ha
  try have:=fun h1=>(h.2.1 h1) a ha
  try have:=fun h1=>(h.2.2 h1) a ha
  try have:=h.1 (ρ.i 10202).toNat (by omega)
  try have:=fun h1=>(h.2.1 h1) (ρ.i 10202).toNat (by omega)
  try have:=fun h1=>(h.2.2 h1) (ρ.i 10202).toNat (by omega)
  by_cases e:a=(ρ.i 10202).toNat
  ·subst e
   clear h
   simp only[vR,ae,true_and,if_true,and_false,false_and,if_false,reduceIte,Nat.reduceEqDiff]at*
   grind
  ·clear h
   simp only[vR,ae,e,false_and,if_false]at*
   grind)
theorem a7b:ab [([leq (c 0) 8,leq 8 (c 64),rx 16 [101,102,104,105,106,107,108,109,110,111,112,8,7,5,6] [],rx 12 [8,101,104,105,112,7,102,147,115] [2],rx 13 [8,147,115] [2],eql 147 (c 2),eql 115 (c 2),rx 6 [8] [2],rx 18 [7] [3],rx 7 [9,8] [9],.imp 10204 (rx 26 [8,10202,102] [10205,2]),.imp (nx 10204) (rx 28 [8] [10205,2]),rx 18 [7] [10206],rx 7 [10212,8] [10212],rx 11 [10202,(.bits .xor .u64 (c 18446744073709551615) 5202),(c 0)] [],rx 24 [5201,5202] [2],leq (c 0) 5201,leq 5201 (.nat 8),rx 25 [201] [2],leq (c 0) 201,leq 201 (.nat 8),fb (nx (ix (.cmp .neq 10202 (c (-1))) 10204 (.lit false))),fb (.cmp .neq 10202 (c (-1))),fb (nx (lx 5201 (.nat 8))),fb (.cmp .geq 201 (c 0)),fb (ix (ex (gx 2 201 9) (c 1)) (.lit true) (ex (gx 2 201 9) (c 2))),lss 201 (.nat 8)],rx 12 [8,101,104,105,112,7,102,147,115] [10205])]:=by
 repeat' (first|exact .nil|refine au ?_ ?_)
 all_goals(
  intro ρ h;simp only[vS,IE.den,BE.den,LE.den]at h⊢
  obtain⟨h0,h1,h2,h3,h4,h5,h6,h7,h8,h9,h10,h11,h12,h13,h14,h15,h16,h17,h18,h19,h20,h21⟩:=h
  have hs:ac 25 [ρ.i 8] [ρ.l 10205,ρ.l 2]:=h11 (by grind)
  clear h10 h11 h14 h15 h16 h17 h18 h9 h8 h7 h4
  refine⟨fun a ha=>?_,fun a b ha hb=>?_⟩
  ·have x:=h3.1 a ha
   have y:=hs a ha
   clear h3 hs
   simp only[aC]at x⊢;grind
  ·have x:=h3.2 a b ha hb
   have y:=hs a ha
   have z:=hs b hb
   clear h3 hs
   grind)
theorem aa1:ab [([leq (c 0) 8,leq 8 (c 64),rx 16 [101,102,104,105,106,107,108,109,110,111,112,8,7,5,6] [],rx 12 [8,101,104,105,112,7,102,147,115] [2],rx 13 [8,147,115] [2],eql 147 (c 2),eql 115 (c 2),rx 6 [8] [2],rx 18 [7] [3],rx 7 [9,8] [9],.imp 10204 (rx 26 [8,10202,102] [10205,2]),.imp (nx 10204) (rx 28 [8] [10205,2]),rx 18 [7] [10206],rx 7 [10212,8] [10212],rx 11 [10202,(.bits .xor .u64 (c 18446744073709551615) 5202),(c 0)] [],rx 24 [5201,5202] [2],leq (c 0) 5201,leq 5201 (.nat 8),rx 25 [201] [2],leq (c 0) 201,leq 201 (.nat 8),fb (nx (ix (.cmp .neq 10202 (c (-1))) 10204 (.lit false))),fb (.cmp .neq 10202 (c (-1))),fb (nx (lx 5201 (.nat 8))),fb (.cmp .geq 201 (c 0)),fb (ix (ex (gx 2 201 9) (c 1)) (.lit true) (ex (gx 2 201 9) (c 2))),lss 201 (.nat 8)],rx 13 [8,147,115] [10205])]:=by
 repeat' (first|exact .nil|refine au ?_ ?_)
 all_goals(
  intro ρ h;simp only[vS,IE.den,BE.den,LE.den]at h⊢
  obtain⟨h0,h1,h2,h3,h4,h5,h6,h7,h8,h9,h10,h11,h12,h13,h14,h15,h16,h17,h18,h19,h20,h21⟩:=h
  have hs:ac 25 [ρ.i 8] [ρ.l 10205,ρ.l 2]:=h11 (by grind)
  intro a ha
  have x:=h4 a ha
  have y:=hs a ha
  clear h3 h4 hs h10 h11 h14 h15 h16 h17 h18 h9 h8 h7
  simp only[fR]at x⊢;grind)
theorem ab4:ab [([rx 12 [8,101,104,105,112,7,102,147,115] [2],.imp 10204 (rx 26 [8,10202,102] [10205,2]),.imp (nx 10204) (rx 28 [8] [10205,2])],rx 14 [8] [2,10205])]:=by
 repeat' (first|exact .nil|refine au ?_ ?_)
 all_goals(
  intro ρ h;simp only[vS,IE.den,BE.den,LE.den]at h⊢
  intro a ha
  try have:=h.1.1 a ha
  try have:=fun h1=>(h.2.1 h1) a ha
  try have:=fun h1=>(h.2.2 h1) a ha
  clear h
  simp only[vR]at*
  grind)
theorem Gf:XY.ok Tryz.prog:=ao (.cons D6 (.cons uy (.cons qT (.cons vB (.cons m7 .nil))))) kf (a5t ab6 (a5t ab8 (a5t abu (a5t aby (a5t ac3 (a5t adg (a5t ads (a5t adt (a5t adu (a5t adv (a5t a63 (a5t a6v (a5t a6y (a5t a7b (a5t aa1 ab4))))))))))))))) [3,18,19,2,2,0,0,0,20,32,21,22,4,23,24,2,2,0,0,0,0,25,5,6,26,33,27,28,29,34,30,31,35,36,39,40,7,41,37,38,7,42,43,43,2,2,44,8,9,2,2,47,48,49,10,11,2,2,50,51,52,12,13,2,2,2,2,44,14,15,2,2,2,2,44,16,9,2,2] (by kernel_rfl)
theorem ae7:ab [([fb (ix (ex 147 (c 0)) (ex 148 (c 1)) (.lit false))],eql 147 (c 0)),
([fb (ix (ix (ex 147 (c 2)) (ex 148 (c 2)) (.lit false)) (nx 222) (.lit false))],eql 147 (c 2)),
([],.imp (nx (ex 147 (c 2))) (eql 9 9)),
([fb (ix (ix (ex 147 (c 2)) (ex 148 (c 2)) (.lit false)) (nx 222) (.lit false))],.imp (nx (ex 147 (c 2))) (eql 282 9)),
([fb (ix (ix (ex 147 (c 2)) (ex 148 (c 2)) (.lit false)) (nx 222) (.lit false))],.imp (nx (ex 147 (c 2))) (eql 232 9)),
([],.imp (nx (ex 147 (c 2))) (eql 9 9))]:=s8
theorem ae8:ab [([fb (ix (ix (ex 147 (c 2)) (ex 148 (c 2)) (.lit false)) (nx 222) (.lit false)),.imp (ex 148 (c 2)) (eql 115 (c 2))],eql 115 (c 2)),
([fb (ix (ix (ex 147 (c 2)) (ex 148 (c 2)) (.lit false)) (nx 222) (.lit false)),.imp (ix (ex 147 (c 2)) (ex 148 (c 2)) (.lit false)) (.imp (nx 222) (rx 6 [8] [2]))],rx 6 [8] [2]),
([.imp (nx 224) (rx 6 [8] [225]),fb (ix (ix (ix (ex 147 (c 2)) (ex 148 (c 2)) (.lit false)) (nx 222) (.lit false)) (nx 224) (.lit false))],rx 6 [8] [225]),
([.imp (nx 224) (rx 25 [8] [225]),fb (ix (ix (ix (ex 147 (c 2)) (ex 148 (c 2)) (.lit false)) (nx 222) (.lit false)) (nx 224) (.lit false))],rx 25 [8] [225])]:=kj
theorem aec:ab [([fb (ix (ex 147 (c 0)) (ex 148 (c 1)) (.lit false))],.imp (ex 147 (c 1)) (rx 28 [8] [203,2])),
([fb (ix (ix (ex 147 (c 2)) (ex 148 (c 2)) (.lit false)) (nx 222) (.lit false))],.imp (ex 147 (c 1)) (rx 28 [8] [275,2])),
([fb (ix (ix (ex 147 (c 2)) (ex 148 (c 2)) (.lit false)) (nx 222) (.lit false))],.imp (ex 147 (c 1)) (rx 28 [8] [225,2]))]:=by
  repeat' (first|exact .nil|refine au ?_ ?_)
  all_goals(
   intro ρ h;simp only[vS,IE.den,BE.den,LE.den]at h⊢
   have h0:=h
   try simp only[IntKind.wrap_i64]at*
   intro hc
   intro a ha
   try simp only[aC,fR,xh,XE,ae]at⊢
   grind)
theorem aed:ab [([rx 14 [8] [225,275],rx 14 [8] [2,225]],rx 14 [8] [2,275])]:=by
 repeat' (first|exact .nil|refine au ?_ ?_)
 all_goals(
  intro ρ h;simp only[vS,IE.den,BE.den,LE.den]at h⊢
  obtain⟨h0,h1⟩:=h
  try simp only[IntKind.wrap_i64]at*
  intro a ha
  first|have xa0:=h0 a ha|have xa0:=h
  first|have xa1:=h1 a ha|have xa1:=h
  try simp only[aC,fR,xh,XE,ae]at xa0 xa1⊢
  grind)
theorem afu:ab [([],eql 14 14),
([],eql 14 14)]:=dS
theorem afv:ab [([],rx 14 [8] [2,2])]:=by
 repeat' (first|exact .nil|refine au ?_ ?_)
 all_goals(
  intro ρ h;simp only[vS,IE.den,BE.den,LE.den]at h⊢
  try simp only[IntKind.wrap_i64]at*
  intro a ha
  try simp only[aC,fR,xh,XE,ae]at⊢
  grind)
theorem ag3:ab [([],.imp (ex 147 (c 1)) (rx 28 [8] [2,2]))]:=by
 repeat' (first|exact .nil|refine au ?_ ?_)
 all_goals(
  intro ρ h;simp only[vS,IE.den,BE.den,LE.den]at h⊢
  try simp only[IntKind.wrap_i64]at*
  intro hc
  intro a ha
  try simp only[aC,fR,xh,XE,ae]at⊢
  grind)
theorem a32:af0.ok Tryz.prog:=ao (.cons xY (.cons tM (.cons Gf (.cons Io .nil)))) eW (a5t ae7 (a5t ae8 (a5t aec (a5t aed (a5t afu (a5t afv ag3)))))) [3,4,9,10,4,9,11,12,2,2,2,2,2,2,5,13,2,2,16,2,2,2,6,14,2,2,2,2,2,17,7,15,2,2,19,2,2,17,5,20] (by kernel_rfl)
theorem age:ab [([eql 208 203,rx 0 [] [208,203],rx 8 [203,8] [203]],rx 8 [208,8] [208]),
([leq (c 0) 5207,rx 8 [208,8] [208],lss 5207 (.nat 208)],leq (c 0) (gx 208 5207 0)),
([leq (c 0) 5207,rx 8 [208,8] [208],lss 5207 (.nat 208)],lss (gx 208 5207 0) (.nat 8)),
([leq (c 0) 5207,rx 8 [208,8] [208],lss 5207 (.nat 208)],lss (.nat (gx 208 5207 0)) (.nat 8)),
([leq (c 0) 10207,rx 8 [203,8] [203],lss 10207 (.nat 203)],leq (c 0) (gx 203 10207 0)),
([leq (c 0) 10207,rx 8 [203,8] [203],lss 10207 (.nat 203)],lss (gx 203 10207 0) (.nat 8)),
([leq (c 0) 10207,rx 8 [203,8] [203],lss 10207 (.nat 203)],lss (.nat (gx 203 10207 0)) (.nat 8)),
([eql 15214 15209,rx 0 [] [15214,15209],rx 8 [15209,8] [15209]],rx 8 [15214,8] [15214]),
([leq (c 0) 20213,rx 8 [15214,8] [15214],lss 20213 (.nat 15214)],leq (c 0) (gx 15214 20213 0)),
([leq (c 0) 20213,rx 8 [15214,8] [15214],lss 20213 (.nat 15214)],lss (gx 15214 20213 0) (.nat 8)),
([leq (c 0) 20213,rx 8 [15214,8] [15214],lss 20213 (.nat 15214)],lss (.nat (gx 15214 20213 0)) (.nat 8)),
([leq (c 0) 25213,rx 8 [15209,8] [15209],lss 25213 (.nat 15209)],leq (c 0) (gx 15209 25213 0)),
([leq (c 0) 25213,rx 8 [15209,8] [15209],lss 25213 (.nat 15209)],lss (gx 15209 25213 0) (.nat 8)),
([leq (c 0) 25213,rx 8 [15209,8] [15209],lss 25213 (.nat 15209)],lss (.nat (gx 15209 25213 0)) (.nat 8))]:=kj
theorem agf:ab [([eql 208 203,leq (c 0) 203],leq (c 0) 208),
([eql 207 (c 0),eql 208 203],leq 208 (.add 203 207)),
([eql 207 (c 0)],leq (c 0) 207),
([eql 207 (c 0)],leq 207 (.nat 202)),
([eql 212 (wx (.add 207 (c 1))),leq (c 0) 203,leq (.add 202 203) 9,lss 207 (.nat 202),leq 9 (c 1000000)],lss (.nat (.sub (.nat 202) 212)) (.nat (.sub (.nat 202) 207))),
([eql 213 (.add (.nat 208) (c 1))],leq (c 0) 213),
([eql 212 (wx (.add 207 (c 1))),eql 213 (.add (.nat 208) (c 1)),leq (c 0) 208,leq 208 (.add 203 207),leq (c 0) 203,leq (.add 202 203) 9,lss 207 (.nat 202),leq 9 (c 1000000)],leq 213 (.add 203 212)),
([eql 212 (wx (.add 207 (c 1))),leq (c 0) 207,leq (c 0) 203,leq (.add 202 203) 9,lss 207 (.nat 202),leq 9 (c 1000000)],leq (c 0) 212),
([eql 212 (wx (.add 207 (c 1))),leq (c 0) 207,lss 207 (.nat 202)],leq 212 (.nat 202)),
([eql 5207 (c 0)],leq (c 0) 5207),
([eql 5207 (c 0)],leq 5207 (.nat 208)),
([eql 5209 (wx (.add 5207 (c 1))),leq (c 0) 5207,leq 5207 (.nat 208),leq 208 (.add 203 207),leq 207 (.nat 202),leq (c 0) 202,leq (.add 202 203) 9,leq 9 (c 1000000)],leq (c 0) 5209),
([eql 5209 (wx (.add 5207 (c 1))),leq (c 0) 5207,lss 5207 (.nat 208)],leq 5209 (.nat 208)),
([eql 5211 (wx (.add 5207 (c 1))),leq (c 0) 5207,leq 5207 (.nat 208),leq 208 (.add 203 207),leq 207 (.nat 202),leq (c 0) 202,leq (.add 202 203) 9,leq 9 (c 1000000)],leq (c 0) 5211),
([eql 5211 (wx (.add 5207 (c 1))),leq (c 0) 5207,lss 5207 (.nat 208)],leq 5211 (.nat 208)),
([eql 10207 (c 0)],leq (c 0) 10207),
([eql 10207 (c 0)],leq 10207 (.nat 203)),
([eql 10209 (wx (.add 10207 (c 1))),leq (c 0) 202,leq (.add 202 203) 9,lss 10207 (.nat 203),leq 9 (c 1000000)],lss (.nat (.sub (.nat 203) 10209)) (.nat (.sub (.nat 203) 10207))),
([eql 10209 (wx (.add 10207 (c 1))),leq (c 0) 10207,leq (c 0) 202,leq (.add 202 203) 9,lss 10207 (.nat 203),leq 9 (c 1000000)],leq (c 0) 10209),
([eql 10209 (wx (.add 10207 (c 1))),leq (c 0) 10207,lss 10207 (.nat 203)],leq 10209 (.nat 203)),
([eql 10211 (wx (.add 10207 (c 1))),leq (c 0) 202,leq (.add 202 203) 9,lss 10207 (.nat 203),leq 9 (c 1000000)],lss (.nat (.sub (.nat 203) 10211)) (.nat (.sub (.nat 203) 10207))),
([eql 10211 (wx (.add 10207 (c 1))),leq (c 0) 10207,leq (c 0) 202,leq (.add 202 203) 9,lss 10207 (.nat 203),leq 9 (c 1000000)],leq (c 0) 10211),
([eql 10211 (wx (.add 10207 (c 1))),leq (c 0) 10207,lss 10207 (.nat 203)],leq 10211 (.nat 203)),
([eql 15214 15209,leq (c 0) 15209],leq (c 0) 15214),
([eql 15213 (c 0),eql 15214 15209],leq 15214 (.add 15209 15213)),
([eql 15213 (c 0)],leq (c 0) 15213),
([eql 15213 (c 0)],leq 15213 (.nat 15208)),
([eql 15218 (wx (.add 15213 (c 1))),leq (c 0) 15209,leq (.add 15208 15209) 9,lss 15213 (.nat 15208),leq 9 (c 1000000)],lss (.nat (.sub (.nat 15208) 15218)) (.nat (.sub (.nat 15208) 15213))),
([eql 15219 (.add (.nat 15214) (c 1))],leq (c 0) 15219),
([eql 15218 (wx (.add 15213 (c 1))),eql 15219 (.add (.nat 15214) (c 1)),leq (c 0) 15214,leq 15214 (.add 15209 15213),leq (c 0) 15209,leq (.add 15208 15209) 9,lss 15213 (.nat 15208),leq 9 (c 1000000)],leq 15219 (.add 15209 15218)),
([eql 15218 (wx (.add 15213 (c 1))),leq (c 0) 15213,leq (c 0) 15209,leq (.add 15208 15209) 9,lss 15213 (.nat 15208),leq 9 (c 1000000)],leq (c 0) 15218),
([eql 15218 (wx (.add 15213 (c 1))),leq (c 0) 15213,lss 15213 (.nat 15208)],leq 15218 (.nat 15208)),
([eql 20213 (c 0)],leq (c 0) 20213),
([eql 20213 (c 0)],leq 20213 (.nat 15214)),
([eql 20215 (wx (.add 20213 (c 1))),leq (c 0) 20213,leq 20213 (.nat 15214),leq 15214 (.add 15209 15213),leq 15213 (.nat 15208),leq (c 0) 15208,leq (.add 15208 15209) 9,leq 9 (c 1000000)],leq (c 0) 20215),
([eql 20215 (wx (.add 20213 (c 1))),leq (c 0) 20213,lss 20213 (.nat 15214)],leq 20215 (.nat 15214)),
([eql 20217 (wx (.add 20213 (c 1))),leq (c 0) 20213,leq 20213 (.nat 15214),leq 15214 (.add 15209 15213),leq 15213 (.nat 15208),leq (c 0) 15208,leq (.add 15208 15209) 9,leq 9 (c 1000000)],leq (c 0) 20217),
([eql 20217 (wx (.add 20213 (c 1))),leq (c 0) 20213,lss 20213 (.nat 15214)],leq 20217 (.nat 15214)),
([eql 25213 (c 0)],leq (c 0) 25213),
([eql 25213 (c 0)],leq 25213 (.nat 15209)),
([eql 25215 (wx (.add 25213 (c 1))),leq (c 0) 15208,leq (.add 15208 15209) 9,lss 25213 (.nat 15209),leq 9 (c 1000000)],lss (.nat (.sub (.nat 15209) 25215)) (.nat (.sub (.nat 15209) 25213))),
([eql 25215 (wx (.add 25213 (c 1))),leq (c 0) 25213,leq (c 0) 15208,leq (.add 15208 15209) 9,lss 25213 (.nat 15209),leq 9 (c 1000000)],leq (c 0) 25215),
([eql 25215 (wx (.add 25213 (c 1))),leq (c 0) 25213,lss 25213 (.nat 15209)],leq 25215 (.nat 15209)),
([eql 25217 (wx (.add 25213 (c 1))),leq (c 0) 15208,leq (.add 15208 15209) 9,lss 25213 (.nat 15209),leq 9 (c 1000000)],lss (.nat (.sub (.nat 15209) 25217)) (.nat (.sub (.nat 15209) 25213))),
([eql 25217 (wx (.add 25213 (c 1))),leq (c 0) 25213,leq (c 0) 15208,leq (.add 15208 15209) 9,lss 25213 (.nat 15209),leq 9 (c 1000000)],leq (c 0) 25217),
([eql 25217 (wx (.add 25213 (c 1))),leq (c 0) 25213,lss 25213 (.nat 15209)],leq 25217 (.nat 15209)),
([eql 148 (c 2)],.imp (.cmp .neq 148 (c 2)) (fb (.lit true))),
([leq (c 0) 203,leq (.add 202 203) 9],leq 202 9),
([eql 148 (c 2)],.imp (.cmp .neq 148 (c 2)) (eql 202 (c 0))),
([leq (c 0) 15209,leq (.add 15208 15209) 9],leq 15208 9),
([fb (nx (.cmp .neq 148 (c 2)))],.imp (.cmp .neq 148 (c 2)) (eql 15208 (c 0)))]:=dS
theorem agh:ab [([leq 208 (.add 203 207),leq (c 0) 207,leq (.add 202 203) 9,lss 207 (.nat 202),rx 16 [101,102,104,105,106,107,108,109,110,111,112,8,7,5,6] [],rx 7 [9,8] [9]],leq (.add (.nat 208) (c 1)) (c 4294967296)),
([eql 5209 (wx (.add 5207 (c 1))),leq 208 (.add 203 207),leq 207 (.nat 202),rx 7 [202,8] [202],leq (.add 202 203) 9,lss 5207 (.nat 208),rx 16 [101,102,104,105,106,107,108,109,110,111,112,8,7,5,6] [],rx 7 [9,8] [9]],lss (.nat (.sub (.nat 208) 5209)) (.nat (.sub (.nat 208) 5207))),
([eql 5211 (wx (.add 5207 (c 1))),leq 208 (.add 203 207),leq 207 (.nat 202),rx 7 [202,8] [202],leq (.add 202 203) 9,lss 5207 (.nat 208),rx 16 [101,102,104,105,106,107,108,109,110,111,112,8,7,5,6] [],rx 7 [9,8] [9]],lss (.nat (.sub (.nat 208) 5211)) (.nat (.sub (.nat 208) 5207))),
([leq 15214 (.add 15209 15213),leq (c 0) 15213,leq (.add 15208 15209) 9,lss 15213 (.nat 15208),rx 16 [101,102,104,105,106,107,108,109,110,111,112,8,7,5,6] [],rx 7 [9,8] [9]],leq (.add (.nat 15214) (c 1)) (c 4294967296)),
([eql 20215 (wx (.add 20213 (c 1))),leq 15214 (.add 15209 15213),leq 15213 (.nat 15208),rx 7 [15208,8] [15208],leq (.add 15208 15209) 9,lss 20213 (.nat 15214),rx 16 [101,102,104,105,106,107,108,109,110,111,112,8,7,5,6] [],rx 7 [9,8] [9]],lss (.nat (.sub (.nat 15214) 20215)) (.nat (.sub (.nat 15214) 20213))),
([eql 20217 (wx (.add 20213 (c 1))),leq 15214 (.add 15209 15213),leq 15213 (.nat 15208),rx 7 [15208,8] [15208],leq (.add 15208 15209) 9,lss 20213 (.nat 15214),rx 16 [101,102,104,105,106,107,108,109,110,111,112,8,7,5,6] [],rx 7 [9,8] [9]],lss (.nat (.sub (.nat 15214) 20217)) (.nat (.sub (.nat 15214) 20213)))]:=lm
theorem agi:ab [([eql 212 (wx (.add 207 (c 1))),eql 213 (.add (.nat 208) (c 1)),rx 0 [] [213,(ux 208 (.nat 208) 0 (gx 202 207 0))],rx 8 [208,8] [208],leq (c 0) 208,leq 208 (.add 203 207),leq (c 0) 207,leq 207 (.nat 202),rx 7 [202,8] [202],rx 8 [203,8] [203],leq (c 0) 202,leq (c 0) 203,leq (.add 202 203) 9,lss 207 (.nat 202),leq (c 0) 8,leq 8 (c 64),rx 7 [9,8] [9],leq (c 0) 9,leq 9 (c 1000000),.imp (ex 147 (c 0)) (eql 9 (c 0))],rx 8 [213,8] [213])]:=by
 repeat' (first|exact .nil|refine au ?_ ?_)
 all_goals(
  intro ρ h;simp only[vS,IE.den,BE.den,LE.den]at h⊢
  obtain⟨h0,h1,h2,h3,h4,h5,h6,h7,h8,h9,h10,h11,h12,h13,h14⟩:=h
  intro a ha
  rw[h2];simp only[ae,and_true]
  split
  ·exact h8.2.2.1 (ρ.i 207).toNat (by omega)
  ·rename_i e;exact h3 a (by simp only[Int.toNat_natCast]at e;omega))
theorem agj:ab [([rx 0 [] [5208,2],rx 12 [8,101,104,105,112,7,102,147,115] [2]],rx 12 [8,101,104,105,112,7,102,147,115] [5208]),
([rx 0 [] [10208,2],rx 12 [8,101,104,105,112,7,102,147,115] [2]],rx 12 [8,101,104,105,112,7,102,147,115] [10208]),
([rx 0 [] [20214,2],rx 12 [8,101,104,105,112,7,102,147,115] [2]],rx 12 [8,101,104,105,112,7,102,147,115] [20214]),
([rx 0 [] [25214,2],rx 12 [8,101,104,105,112,7,102,147,115] [2]],rx 12 [8,101,104,105,112,7,102,147,115] [25214])]:=by
  repeat' (first|exact .nil|refine au ?_ ?_)
  all_goals(
   intro ρ h;simp only[vS,IE.den,BE.den,LE.den]at h⊢
   obtain⟨h0,h1⟩:=h
   try simp only[IntKind.wrap_i64]at*
   refine⟨fun a ha=>?_,fun a b ha hb=>?_⟩
   ·first|have xa1:=h1.1 a ha|have xa1:=h
    simp only[h0]
    try simp only[aC,fR,xh,XE,ae]at xa1⊢
    grind
   ·first|have z1:=h1.2 a b ha hb|have z1:=h
    first|have xa1:=h1.1 a ha|have xa1:=h
    first|have xb1:=h1.1 b hb|have xb1:=h
    simp only[h0]
    try simp only[aC,fR,xh,XE,ae]at z1 xa1 xb1⊢
    grind)
theorem agk:ab [([rx 0 [] [5208,2],rx 13 [8,147,115] [2]],rx 13 [8,147,115] [5208]),
([rx 0 [] [5210,(ux (ux 5208 (gx 208 5207 0) 11 (c (-1))) (gx 208 5207 0) 9 (c 1))],rx 13 [8,147,115] [5208]],rx 13 [8,147,115] [5210]),
([rx 0 [] [5210,(ux (ux 5208 (gx 208 5207 0) 11 (c (-1))) (gx 208 5207 0) 9 (c 1))],rx 14 [8] [2,5208]],rx 14 [8] [2,5210]),
([rx 0 [] [5210,(ux (ux 5208 (gx 208 5207 0) 11 (c (-1))) (gx 208 5207 0) 9 (c 1))],rx 31 [8] [5208,2]],rx 31 [8] [5210,2]),
([rx 0 [] [5212,(ux 5208 (gx 208 5207 0) 11 (c (-1)))],rx 13 [8,147,115] [5208]],rx 13 [8,147,115] [5212]),
([rx 0 [] [5212,(ux 5208 (gx 208 5207 0) 11 (c (-1)))],rx 14 [8] [2,5208]],rx 14 [8] [2,5212]),
([rx 0 [] [5212,(ux 5208 (gx 208 5207 0) 11 (c (-1)))],rx 31 [8] [5208,2]],rx 31 [8] [5212,2]),
([rx 0 [] [10208,2],rx 13 [8,147,115] [2]],rx 13 [8,147,115] [10208]),
([rx 0 [] [10210,(ux (ux 10208 (gx 203 10207 0) 11 (c (-1))) (gx 203 10207 0) 9 (c 1))],rx 13 [8,147,115] [10208]],rx 13 [8,147,115] [10210]),
([rx 0 [] [10210,(ux (ux 10208 (gx 203 10207 0) 11 (c (-1))) (gx 203 10207 0) 9 (c 1))],rx 14 [8] [2,10208]],rx 14 [8] [2,10210]),
([rx 0 [] [10210,(ux (ux 10208 (gx 203 10207 0) 11 (c (-1))) (gx 203 10207 0) 9 (c 1))],rx 31 [8] [10208,2]],rx 31 [8] [10210,2]),
([rx 0 [] [10212,(ux 10208 (gx 203 10207 0) 11 (c (-1)))],rx 13 [8,147,115] [10208]],rx 13 [8,147,115] [10212]),
([rx 0 [] [10212,(ux 10208 (gx 203 10207 0) 11 (c (-1)))],rx 14 [8] [2,10208]],rx 14 [8] [2,10212]),
([rx 0 [] [10212,(ux 10208 (gx 203 10207 0) 11 (c (-1)))],rx 31 [8] [10208,2]],rx 31 [8] [10212,2]),
([rx 0 [] [20214,2],rx 13 [8,147,115] [2]],rx 13 [8,147,115] [20214]),
([rx 0 [] [20216,(ux (ux 20214 (gx 15214 20213 0) 11 (c (-1))) (gx 15214 20213 0) 9 (c 1))],rx 13 [8,147,115] [20214]],rx 13 [8,147,115] [20216]),
([rx 0 [] [20216,(ux (ux 20214 (gx 15214 20213 0) 11 (c (-1))) (gx 15214 20213 0) 9 (c 1))],rx 14 [8] [2,20214]],rx 14 [8] [2,20216]),
([rx 0 [] [20216,(ux (ux 20214 (gx 15214 20213 0) 11 (c (-1))) (gx 15214 20213 0) 9 (c 1))],rx 31 [8] [20214,2]],rx 31 [8] [20216,2]),
([rx 0 [] [20218,(ux 20214 (gx 15214 20213 0) 11 (c (-1)))],rx 13 [8,147,115] [20214]],rx 13 [8,147,115] [20218]),
([rx 0 [] [20218,(ux 20214 (gx 15214 20213 0) 11 (c (-1)))],rx 14 [8] [2,20214]],rx 14 [8] [2,20218]),
([rx 0 [] [20218,(ux 20214 (gx 15214 20213 0) 11 (c (-1)))],rx 31 [8] [20214,2]],rx 31 [8] [20218,2]),
([rx 0 [] [25214,2],rx 13 [8,147,115] [2]],rx 13 [8,147,115] [25214]),
([rx 0 [] [25216,(ux (ux 25214 (gx 15209 25213 0) 11 (c (-1))) (gx 15209 25213 0) 9 (c 1))],rx 13 [8,147,115] [25214]],rx 13 [8,147,115] [25216]),
([rx 0 [] [25216,(ux (ux 25214 (gx 15209 25213 0) 11 (c (-1))) (gx 15209 25213 0) 9 (c 1))],rx 14 [8] [2,25214]],rx 14 [8] [2,25216]),
([rx 0 [] [25216,(ux (ux 25214 (gx 15209 25213 0) 11 (c (-1))) (gx 15209 25213 0) 9 (c 1))],rx 31 [8] [25214,2]],rx 31 [8] [25216,2]),
([rx 0 [] [25218,(ux 25214 (gx 15209 25213 0) 11 (c (-1)))],rx 13 [8,147,115] [25214]],rx 13 [8,147,115] [25218]),
([rx 0 [] [25218,(ux 25214 (gx 15209 25213 0) 11 (c (-1)))],rx 14 [8] [2,25214]],rx 14 [8] [2,25218]),
([rx 0 [] [25218,(ux 25214 (gx 15209 25213 0) 11 (c (-1)))],rx 31 [8] [25214,2]],rx 31 [8] [25218,2])]:=by
  repeat' (first|exact .nil|refine au ?_ ?_)
  all_goals(
   intro ρ h;simp only[vS,IE.den,BE.den,LE.den]at h⊢
   obtain⟨h0,h1⟩:=h
   try simp only[IntKind.wrap_i64]at*
   intro a ha
   first|have xa1:=h1 a ha|have xa1:=h
   simp only[h0]
   try simp only[aC,fR,xh,XE,ae]at xa1⊢
   grind)
theorem agl:ab [([rx 0 [] [5208,2]],rx 14 [8] [2,5208]),
([rx 0 [] [5208,2]],rx 31 [8] [5208,2]),
([rx 0 [] [10208,2]],rx 14 [8] [2,10208]),
([rx 0 [] [10208,2]],rx 31 [8] [10208,2]),
([rx 0 [] [20214,2]],rx 14 [8] [2,20214]),
([rx 0 [] [20214,2]],rx 31 [8] [20214,2]),
([rx 0 [] [25214,2]],rx 14 [8] [2,25214]),
([rx 0 [] [25214,2]],rx 31 [8] [25214,2])]:=by
  repeat' (first|exact .nil|refine au ?_ ?_)
  all_goals(
   intro ρ h;simp only[vS,IE.den,BE.den,LE.den]at h⊢
   have h0:=h
   try simp only[IntKind.wrap_i64]at*
   intro a ha
   simp only[h0]
   try simp only[aC,fR,xh,XE,ae]at⊢
   grind)
theorem agn:ab [([rx 0 [] [5210,(ux (ux 5208 (gx 208 5207 0) 11 (c (-1))) (gx 208 5207 0) 9 (c 1))],rx 12 [8,101,104,105,112,7,102,147,115] [5208],leq (c 0) 5207,leq 208 (.add 203 207),leq 207 (.nat 202),leq (c 0) 202,leq (.add 202 203) 9,lss 5207 (.nat 208),.imp (ex 147 (c 0)) (eql 9 (c 0))],rx 12 [8,101,104,105,112,7,102,147,115] [5210]),
([rx 0 [] [20216,(ux (ux 20214 (gx 15214 20213 0) 11 (c (-1))) (gx 15214 20213 0) 9 (c 1))],rx 12 [8,101,104,105,112,7,102,147,115] [20214],leq (c 0) 20213,leq 15214 (.add 15209 15213),leq 15213 (.nat 15208),leq (c 0) 15208,leq (.add 15208 15209) 9,lss 20213 (.nat 15214),.imp (ex 147 (c 0)) (eql 9 (c 0))],rx 12 [8,101,104,105,112,7,102,147,115] [20216])]:=by
  repeat' (first|exact .nil|refine au ?_ ?_)
  all_goals(
   intro ρ h;simp only[vS,IE.den,BE.den,LE.den]at h⊢
   obtain⟨h0,h1,h2,h3,h4,h5,h6,h7,h8⟩:=h
   try simp only[IntKind.wrap_i64]at*
   refine⟨fun a ha=>?_,fun a b ha hb=>?_⟩
   ·first|have xa1:=h1.1 a ha|have xa1:=h
    simp only[h0]
    try simp only[aC,fR,xh,XE,ae]at xa1⊢
    grind
   ·first|have z1:=h1.2 a b ha hb|have z1:=h
    first|have xa1:=h1.1 a ha|have xa1:=h
    first|have xb1:=h1.1 b hb|have xb1:=h
    simp only[h0]
    try simp only[aC,fR,xh,XE,ae]at z1 xa1 xb1⊢
    grind)
theorem ago:ab [([rx 0 [] [5212,(ux 5208 (gx 208 5207 0) 11 (c (-1)))],rx 12 [8,101,104,105,112,7,102,147,115] [5208],fb (nx (.cmp .neq (gx 5208 (gx 208 5207 0) 9) (c 5)))],rx 12 [8,101,104,105,112,7,102,147,115] [5212]),
([rx 0 [] [10212,(ux 10208 (gx 203 10207 0) 11 (c (-1)))],rx 12 [8,101,104,105,112,7,102,147,115] [10208],fb (nx (.cmp .neq (gx 10208 (gx 203 10207 0) 9) (c 5)))],rx 12 [8,101,104,105,112,7,102,147,115] [10212]),
([rx 0 [] [20218,(ux 20214 (gx 15214 20213 0) 11 (c (-1)))],rx 12 [8,101,104,105,112,7,102,147,115] [20214],fb (nx (.cmp .neq (gx 20214 (gx 15214 20213 0) 9) (c 5)))],rx 12 [8,101,104,105,112,7,102,147,115] [20218]),
([rx 0 [] [25218,(ux 25214 (gx 15209 25213 0) 11 (c (-1)))],rx 12 [8,101,104,105,112,7,102,147,115] [25214],fb (nx (.cmp .neq (gx 25214 (gx 15209 25213 0) 9) (c 5)))],rx 12 [8,101,104,105,112,7,102,147,115] [25218])]:=by
  repeat' (first|exact .nil|refine au ?_ ?_)
  all_goals(
   intro ρ h;simp only[vS,IE.den,BE.den,LE.den]at h⊢
   obtain⟨h0,h1,h2⟩:=h
   try simp only[IntKind.wrap_i64]at*
   refine⟨fun a ha=>?_,fun a b ha hb=>?_⟩
   ·first|have xa1:=h1.1 a ha|have xa1:=h
    simp only[h0]
    try simp only[aC,fR,xh,XE,ae]at xa1⊢
    grind
   ·first|have z1:=h1.2 a b ha hb|have z1:=h
    first|have xa1:=h1.1 a ha|have xa1:=h
    first|have xb1:=h1.1 b hb|have xb1:=h
    simp only[h0]
    try simp only[aC,fR,xh,XE,ae]at z1 xa1 xb1⊢
    grind)
theorem agp:ab [([rx 0 [] [10210,(ux (ux 10208 (gx 203 10207 0) 11 (c (-1))) (gx 203 10207 0) 9 (c 1))],rx 12 [8,101,104,105,112,7,102,147,115] [10208],leq (c 0) 10207,leq (c 0) 202,leq (.add 202 203) 9,lss 10207 (.nat 203),.imp (ex 147 (c 0)) (eql 9 (c 0))],rx 12 [8,101,104,105,112,7,102,147,115] [10210]),
([rx 0 [] [25216,(ux (ux 25214 (gx 15209 25213 0) 11 (c (-1))) (gx 15209 25213 0) 9 (c 1))],rx 12 [8,101,104,105,112,7,102,147,115] [25214],leq (c 0) 25213,leq (c 0) 15208,leq (.add 15208 15209) 9,lss 25213 (.nat 15209),.imp (ex 147 (c 0)) (eql 9 (c 0))],rx 12 [8,101,104,105,112,7,102,147,115] [25216])]:=by
  repeat' (first|exact .nil|refine au ?_ ?_)
  all_goals(
   intro ρ h;simp only[vS,IE.den,BE.den,LE.den]at h⊢
   obtain⟨h0,h1,h2,h3,h4,h5,h6⟩:=h
   try simp only[IntKind.wrap_i64]at*
   refine⟨fun a ha=>?_,fun a b ha hb=>?_⟩
   ·first|have xa1:=h1.1 a ha|have xa1:=h
    simp only[h0]
    try simp only[aC,fR,xh,XE,ae]at xa1⊢
    grind
   ·first|have z1:=h1.2 a b ha hb|have z1:=h
    first|have xa1:=h1.1 a ha|have xa1:=h
    first|have xb1:=h1.1 b hb|have xb1:=h
    simp only[h0]
    try simp only[aC,fR,xh,XE,ae]at z1 xa1 xb1⊢
    grind)
theorem ae2:ab [([eql 15218 (wx (.add 15213 (c 1))),eql 15219 (.add (.nat 15214) (c 1)),rx 0 [] [15219,(ux 15214 (.nat 15214) 0 (gx 15208 15213 0))],rx 8 [15214,8] [15214],leq (c 0) 15214,leq 15214 (.add 15209 15213),leq (c 0) 15213,leq 15213 (.nat 15208),rx 7 [15208,8] [15208],rx 8 [15209,8] [15209],leq (c 0) 15208,leq (c 0) 15209,leq (.add 15208 15209) 9,lss 15213 (.nat 15208),leq (c 0) 8,leq 8 (c 64),rx 7 [9,8] [9],leq (c 0) 9,leq 9 (c 1000000),.imp (ex 147 (c 0)) (eql 9 (c 0))],rx 8 [15219,8] [15219])]:=by
 repeat' (first|exact .nil|refine au ?_ ?_)
 all_goals(
  intro ρ h;simp only[vS,IE.den,BE.den,LE.den]at h⊢
  obtain⟨h0,h1,h2,h3,h4,h5,h6,h7,h8,h9,h10,h11,h12,h13,h14⟩:=h
  intro a ha
  rw[h2];simp only[ae,and_true]
  split
  ·exact h8.2.2.1 (ρ.i 15213).toNat (by omega)
  ·rename_i e;exact h3 a (by simp only[Int.toNat_natCast]at e;omega))
theorem ae5:ab [([leq (c 0) 8],rx 7 [(c 0),8] [209]),
([leq (c 0) 8],rx 7 [(c 0),8] [209])]:=qR
theorem ae6:ab [([],.imp (.cmp .neq 148 (c 2)) (fb (.lit true)))]:=s8
theorem a3d:af3.ok Tryz.prog:=ao (.cons a7u .nil) eW (a5t age (a5t agf (a5t agh (a5t agi (a5t agj (a5t agk (a5t agl (a5t agn (a5t ago (a5t agp (a5t ae2 (a5t ae5 ae6)))))))))))) [3,17,18,19,20,2,2,0,68,2,21,74,22,23,24,25,75,79,107,108,26,27,2,2,0,4,5,6,6,6,6,69,115,80,81,82,28,29,70,117,83,84,85,30,31,76,86,109,110,32,33,2,2,0,7,8,9,9,9,9,34,121,87,88,89,35,36,37,118,90,91,92,38,39,10,40,41,42,43,2,2,0,71,2,44,123,45,46,47,48,77,93,111,112,49,50,2,2,0,11,12,13,13,13,13,72,116,94,95,96,51,52,73,119,97,98,99,53,54,78,100,113,114,55,56,2,2,0,14,15,16,16,16,16,57,122,101,102,103,58,59,60,120,104,105,106,61,62,2,2,2,124,2,0,2,126,2,2,2,2,2,2,64,65,2,2,2,124,2,0,2,126,2,2,2,2,2,2,66,67] (by kernel_rfl)
theorem a3e:ab [([fb (nx (lx 202 (c 0)))],leq (c 0) 202)]:=dS
theorem a3f:ab [([rx 5 [202,9,150] [9]],lss 202 (.nat 9)),
([rx 5 [202,9,150] [9],fb (nx (lx 202 (c 0)))],lss (.nat 202) (.nat 9))]:=kj
theorem a3g:ab [([],.imp (ix (lx 202 (c 0)) (ix (.cmp .neq (gx 2 150 11) (c (-1))) (ix (ix (ex 147 (c 0)) (ex 148 (c 1)) (.lit false)) (.lit true) (.lit false)) (.lit false)) (ix (.cmp .neq (gx 2 150 11) (c (-1))) (ix (ix (ex 147 (c 0)) (ex 148 (c 1)) (.lit false)) (.lit true) (ex 148 (c 2))) (.lit false))) (fb (ix (.cmp .neq (gx 2 150 11) (c (-1))) (.cmp .neq 148 (c 0)) (.lit false))))]:=s8
theorem a3h:af4.ok Tryz.prog:=ao (.cons xC .nil) cy (a5t a3e (a5t a3f a3g)) [3,4,5,2,0,0,0,2,0,0,0,6] (by kernel_rfl)
theorem Bt:ab [([leq (c 1) 5],leq (.sub (c 0) 5) (c 0)),
([leq (c 1) 5],leq (c 0) 5),
([leq (.sub (c 0) 5) 2,leq 2 5],leq (.sub (c 0) 5) (wx (.sub 2 (.ite (.cmp .gtr 2 (c 0)) (c 1) (.ite (lx 2 (c 0)) (c (-1)) (c 0)))))),
([leq (.sub (c 0) 5) 2,leq 2 5],leq (wx (.sub 2 (.ite (.cmp .gtr 2 (c 0)) (c 1) (.ite (lx 2 (c 0)) (c (-1)) (c 0))))) 5)]:=dS
theorem Bu:ab [([leq (c 1) 5,leq 5 (c 8),leq (.sub (c 0) 5) 2,leq 2 5,leq (c 0) 13,leq 13 (.mx 5 (c 1)),leq 13 (c 8),fb (nx (ex (.ite (.cmp .gtr 2 (c 0)) (c 1) (.ite (lx 2 (c 0)) (c (-1)) (c 0))) (wx (.sub (c 0) (.ite (.cmp .gtr (wx (.sub (wx (.mul 4 (c 8))) 1)) (c 0)) (c 1) (.ite (lx (wx (.sub (wx (.mul 4 (c 8))) 1)) (c 0)) (c (-1)) (c 0))))))),fb (nx (ix (nx 6) (.lit true) (ex (.ite (.cmp .gtr (wx (.sub (wx (.mul 4 (c 8))) 1)) (c 0)) (c 1) (.ite (lx (wx (.sub (wx (.mul 4 (c 8))) 1)) (c 0)) (c (-1)) (c 0))) (c 0))))],leq (.sub (c 0) 5) (wx (.mul (.ite (.cmp .gtr (wx (.sub (wx (.mul 4 (c 8))) 1)) (c 0)) (c 1) (.ite (lx (wx (.sub (wx (.mul 4 (c 8))) 1)) (c 0)) (c (-1)) (c 0))) 13))),
([leq (c 1) 5,leq 5 (c 8),leq (.sub (c 0) 5) 2,leq 2 5,leq (c 0) 13,leq 13 (.mx 5 (c 1)),leq 13 (c 8),fb (nx (ex (.ite (.cmp .gtr 2 (c 0)) (c 1) (.ite (lx 2 (c 0)) (c (-1)) (c 0))) (wx (.sub (c 0) (.ite (.cmp .gtr (wx (.sub (wx (.mul 4 (c 8))) 1)) (c 0)) (c 1) (.ite (lx (wx (.sub (wx (.mul 4 (c 8))) 1)) (c 0)) (c (-1)) (c 0))))))),fb (nx (ix (nx 6) (.lit true) (ex (.ite (.cmp .gtr (wx (.sub (wx (.mul 4 (c 8))) 1)) (c 0)) (c 1) (.ite (lx (wx (.sub (wx (.mul 4 (c 8))) 1)) (c 0)) (c (-1)) (c 0))) (c 0))))],leq (wx (.mul (.ite (.cmp .gtr (wx (.sub (wx (.mul 4 (c 8))) 1)) (c 0)) (c 1) (.ite (lx (wx (.sub (wx (.mul 4 (c 8))) 1)) (c 0)) (c (-1)) (c 0))) 13)) 5)]:=by
  repeat' (first|exact .nil|refine au ?_ ?_)
  all_goals(
   intro ρ;(intro h;simp only[vS,IE.den,BE.den,LE.den]at h⊢;revert h;(try simp only[and_imp]);intros)
   generalize IntKind.i64.wrap (IntKind.i64.wrap (ρ.i 4*8)-ρ.i 1)=d
   by_cases h1:0<d
   ·simp only[h1,if_true,Int.one_mul];rw[cq (by omega)];omega
   ·by_cases h2:d<0
    ·simp only[h1,h2,if_true,if_false];rw[cq (by omega)];omega
    ·simp only[h1,h2,if_false,Int.zero_mul];rw[cq (by omega)];omega)
theorem Bw:Ph.ok Tryz.prog:=ao (.cons xG .nil) cy (a5t Bt Bu) [3,4,5,6,7,8] (by kernel_rfl)
theorem Bx:ab [([],leq (c 0) (.ite 6 (.ite (ix 7 (ix (ix (ex 2 (c 0)) (ex (.rem 1 (c 8)) (c 0)) (.lit false)) (nx (ex 4 5)) (.lit false)) (.lit false)) (c 1) (c 0)) (.ite (ix 7 (nx (ex 4 (c 0))) (.lit false)) (c 2) (c 0)))),
([],leq (.ite 6 (.ite (ix 7 (ix (ix (ex 2 (c 0)) (ex (.rem 1 (c 8)) (c 0)) (.lit false)) (nx (ex 4 5)) (.lit false)) (.lit false)) (c 1) (c 0)) (.ite (ix 7 (nx (ex 4 (c 0))) (.lit false)) (c 2) (c 0))) (c 2))]:=dS
theorem kA:Pi.ok Tryz.prog:=ao aS.nil cy Bx [3,4] (by kernel_rfl)
theorem uC:ab [([eql 200 (c 0),eql 201 (c 0)],eql 201 200),
([eql 200 (c 0)],leq (c 0) 200),
([eql 200 (c 0)],leq 200 (.nat 17)),
([eql 201 200,lss 200 (.nat 17),leq 17 (c 1000000)],leq (.add (.nat 201) (c 1)) (c 4294967296)),
([eql 201 200,leq (c 0) 200],leq (c 0) 201),
([eql 204 (wx (.add 200 (c 1))),lss 200 (.nat 17),leq 17 (c 1000000)],lss (.nat (.sub (.nat 17) 204)) (.nat (.sub (.nat 17) 200))),
([eql 204 (wx (.add 200 (c 1))),eql 205 (.add (.nat 201) (c 1)),eql 201 200,leq (c 0) 200,leq 200 (.nat 17),leq 17 (c 1000000)],eql 205 204),
([eql 204 (wx (.add 200 (c 1))),leq (c 0) 200,leq 200 (.nat 17),leq 17 (c 1000000)],leq (c 0) 204),
([eql 204 (wx (.add 200 (c 1))),leq (c 0) 200,lss 200 (.nat 17)],leq 204 (.nat 17)),
([eql 201 200,leq (c 0) 200],leq (c 0) 201),
([eql 201 200,leq 200 (.nat 17),leq 17 (c 1000000)],leq 201 (c 1000000))]:=dS
theorem uD:HJ.ok Tryz.prog:=ao (.cons tL (.cons (vC 0 (by decide)) (.cons (vC 1 (by decide)) (.cons Qg (.cons Zz .nil))))) cy uC [3,4,5,2,2,0,6,7,8,9,10,11,7,13] (by kernel_rfl)
theorem By:ab [([],.imp (.cmp .neq 4 (c 0)) (fb (ix (nx (ex 4 (c 0))) (.lit true) 7))),
([],fb (ix (ex (.ite (nx (ex 4 (c 0))) (c 0) 6) 6) (.lit true) (ex (.ite (nx (ex 4 (c 0))) (c 0) 6) (c 0))))]:=dS
theorem Bz:ab [([],.imp (nx (ix (nx (ex 4 (c 0))) (.lit true) 7)) (fb (nx 7))),
([],.imp (ex (.ite (nx (ex 4 (c 0))) (.ite (ix (ex 9 (c 2)) (.lit true) (ix (ix (ex 9 (c 1)) (ix (ex 2 (c 0)) (ex (.rem 1 (c 8)) (c 0)) (.lit false)) (.lit false)) (.lit true) (.lit false))) 9 (c 0)) (.ite (ix (ex 9 (c 2)) (.lit true) (ix (ix (ex 9 (c 1)) (ix (ex 2 (c 0)) (ex (.rem 1 (c 8)) (c 0)) (.lit false)) (.lit false)) 7 (.lit false))) 9 (c 0))) (c 1)) (fb (ix (ix (nx (ex 4 (c 0))) (.lit true) 7) (ix (ex 2 (c 0)) (ex (.rem 1 (c 8)) (c 0)) (.lit false)) (.lit false))))]:=s8
theorem BA:Pj.ok Tryz.prog:=ao aS.nil cy (a5t By Bz) [3,5,4,6] (by kernel_rfl)
theorem uE:HI.ok Tryz.prog:=ao aS.nil cy .nil [] (by kernel_rfl)
theorem Gt:ab [([leq (c 0) 1],leq (c 0) (.ite 5 1 (.mn (.mx (wx (.add 1 (.mn (.mx (.mn (.mx 4 (c (-8))) (c 8)) (.mn (.mx (wx (.sub 2 (c 1))) (c (-8))) (c 8))) (.mn (.mx (wx (.add 2 (c 1))) (c (-8))) (c 8))))) (c 0)) (wx (.mul (wx (.sub (.mn (.mx 6 (c 2)) (c 32)) (c 1))) (c 8))))))]:=dS
theorem Gu:ab [([leq (c 2) 6,leq 6 (c 32),leq (c 0) 1,leq 1 (.mul (.sub 6 (c 1)) (c 8)),leq (c (-8)) 2,leq 2 (c 8),leq (c (-8)) 4,leq 4 (c 8)],leq (.ite 5 1 (.mn (.mx (wx (.add 1 (.mn (.mx (.mn (.mx 4 (c (-8))) (c 8)) (.mn (.mx (wx (.sub 2 (c 1))) (c (-8))) (c 8))) (.mn (.mx (wx (.add 2 (c 1))) (c (-8))) (c 8))))) (c 0)) (wx (.mul (wx (.sub (.mn (.mx 6 (c 2)) (c 32)) (c 1))) (c 8))))) (.mul (.sub 6 (c 1)) (c 8)))]:=by
 repeat' (first|exact .nil|refine au ?_ ?_)
 all_goals(
  intro ρ h;simp only[vS,IE.den,BE.den,LE.den,IntKind.wrap_i64]at h⊢
  split<;>omega)
theorem Gv:ab [([],.imp 5 (fb (ix (ex (.ite 5 1 (.mn (.mx (wx (.add 1 (.mn (.mx (.mn (.mx 4 (c (-8))) (c 8)) (.mn (.mx (wx (.sub 2 (c 1))) (c (-8))) (c 8))) (.mn (.mx (wx (.add 2 (c 1))) (c (-8))) (c 8))))) (c 0)) (wx (.mul (wx (.sub (.mn (.mx 6 (c 2)) (c 32)) (c 1))) (c 8))))) 1) (ex (.ite 5 (c 0) (.ite (.cmp .neq (.mn (.mx (wx (.add 1 (.mn (.mx (.mn (.mx 4 (c (-8))) (c 8)) (.mn (.mx (wx (.sub 2 (c 1))) (c (-8))) (c 8))) (.mn (.mx (wx (.add 2 (c 1))) (c (-8))) (c 8))))) (c 0)) (wx (.mul (wx (.sub (.mn (.mx 6 (c 2)) (c 32)) (c 1))) (c 8)))) (wx (.add 1 (.mn (.mx (.mn (.mx 4 (c (-8))) (c 8)) (.mn (.mx (wx (.sub 2 (c 1))) (c (-8))) (c 8))) (.mn (.mx (wx (.add 2 (c 1))) (c (-8))) (c 8)))))) (c 0) (.mn (.mx (.mn (.mx 4 (c (-8))) (c 8)) (.mn (.mx (wx (.sub 2 (c 1))) (c (-8))) (c 8))) (.mn (.mx (wx (.add 2 (c 1))) (c (-8))) (c 8))))) (c 0)) (.lit false))))]:=s8
theorem Gw:ab [([leq (c 2) 6,leq 6 (c 32),leq (c 0) 1,leq 1 (.mul (.sub 6 (c 1)) (c 8)),leq (c (-8)) 2,leq 2 (c 8),leq (c (-8)) 4,leq 4 (c 8)],.imp (.cmp .neq (.ite 5 (c 0) (.ite (.cmp .neq (.mn (.mx (wx (.add 1 (.mn (.mx (.mn (.mx 4 (c (-8))) (c 8)) (.mn (.mx (wx (.sub 2 (c 1))) (c (-8))) (c 8))) (.mn (.mx (wx (.add 2 (c 1))) (c (-8))) (c 8))))) (c 0)) (wx (.mul (wx (.sub (.mn (.mx 6 (c 2)) (c 32)) (c 1))) (c 8)))) (wx (.add 1 (.mn (.mx (.mn (.mx 4 (c (-8))) (c 8)) (.mn (.mx (wx (.sub 2 (c 1))) (c (-8))) (c 8))) (.mn (.mx (wx (.add 2 (c 1))) (c (-8))) (c 8)))))) (c 0) (.mn (.mx (.mn (.mx 4 (c (-8))) (c 8)) (.mn (.mx (wx (.sub 2 (c 1))) (c (-8))) (c 8))) (.mn (.mx (wx (.add 2 (c 1))) (c (-8))) (c 8))))) (c 0)) (fb (ix (ix (jx (.ite 5 (c 0) (.ite (.cmp .neq (.mn (.mx (wx (.add 1 (.mn (.mx (.mn (.mx 4 (c (-8))) (c 8)) (.mn (.mx (wx (.sub 2 (c 1))) (c (-8))) (c 8))) (.mn (.mx (wx (.add 2 (c 1))) (c (-8))) (c 8))))) (c 0)) (wx (.mul (wx (.sub (.mn (.mx 6 (c 2)) (c 32)) (c 1))) (c 8)))) (wx (.add 1 (.mn (.mx (.mn (.mx 4 (c (-8))) (c 8)) (.mn (.mx (wx (.sub 2 (c 1))) (c (-8))) (c 8))) (.mn (.mx (wx (.add 2 (c 1))) (c (-8))) (c 8)))))) (c 0) (.mn (.mx (.mn (.mx 4 (c (-8))) (c 8)) (.mn (.mx (wx (.sub 2 (c 1))) (c (-8))) (c 8))) (.mn (.mx (wx (.add 2 (c 1))) (c (-8))) (c 8))))) (.add 2 (c 1))) (jx (.sub 2 (c 1)) (.ite 5 (c 0) (.ite (.cmp .neq (.mn (.mx (wx (.add 1 (.mn (.mx (.mn (.mx 4 (c (-8))) (c 8)) (.mn (.mx (wx (.sub 2 (c 1))) (c (-8))) (c 8))) (.mn (.mx (wx (.add 2 (c 1))) (c (-8))) (c 8))))) (c 0)) (wx (.mul (wx (.sub (.mn (.mx 6 (c 2)) (c 32)) (c 1))) (c 8)))) (wx (.add 1 (.mn (.mx (.mn (.mx 4 (c (-8))) (c 8)) (.mn (.mx (wx (.sub 2 (c 1))) (c (-8))) (c 8))) (.mn (.mx (wx (.add 2 (c 1))) (c (-8))) (c 8)))))) (c 0) (.mn (.mx (.mn (.mx 4 (c (-8))) (c 8)) (.mn (.mx (wx (.sub 2 (c 1))) (c (-8))) (c 8))) (.mn (.mx (wx (.add 2 (c 1))) (c (-8))) (c 8)))))) (.lit false)) (ix (ex (.ite 5 1 (.mn (.mx (wx (.add 1 (.mn (.mx (.mn (.mx 4 (c (-8))) (c 8)) (.mn (.mx (wx (.sub 2 (c 1))) (c (-8))) (c 8))) (.mn (.mx (wx (.add 2 (c 1))) (c (-8))) (c 8))))) (c 0)) (wx (.mul (wx (.sub (.mn (.mx 6 (c 2)) (c 32)) (c 1))) (c 8))))) (.add 1 (.ite 5 (c 0) (.ite (.cmp .neq (.mn (.mx (wx (.add 1 (.mn (.mx (.mn (.mx 4 (c (-8))) (c 8)) (.mn (.mx (wx (.sub 2 (c 1))) (c (-8))) (c 8))) (.mn (.mx (wx (.add 2 (c 1))) (c (-8))) (c 8))))) (c 0)) (wx (.mul (wx (.sub (.mn (.mx 6 (c 2)) (c 32)) (c 1))) (c 8)))) (wx (.add 1 (.mn (.mx (.mn (.mx 4 (c (-8))) (c 8)) (.mn (.mx (wx (.sub 2 (c 1))) (c (-8))) (c 8))) (.mn (.mx (wx (.add 2 (c 1))) (c (-8))) (c 8)))))) (c 0) (.mn (.mx (.mn (.mx 4 (c (-8))) (c 8)) (.mn (.mx (wx (.sub 2 (c 1))) (c (-8))) (c 8))) (.mn (.mx (wx (.add 2 (c 1))) (c (-8))) (c 8))))))) (ix (jx (.mn 4 2) (.ite 5 (c 0) (.ite (.cmp .neq (.mn (.mx (wx (.add 1 (.mn (.mx (.mn (.mx 4 (c (-8))) (c 8)) (.mn (.mx (wx (.sub 2 (c 1))) (c (-8))) (c 8))) (.mn (.mx (wx (.add 2 (c 1))) (c (-8))) (c 8))))) (c 0)) (wx (.mul (wx (.sub (.mn (.mx 6 (c 2)) (c 32)) (c 1))) (c 8)))) (wx (.add 1 (.mn (.mx (.mn (.mx 4 (c (-8))) (c 8)) (.mn (.mx (wx (.sub 2 (c 1))) (c (-8))) (c 8))) (.mn (.mx (wx (.add 2 (c 1))) (c (-8))) (c 8)))))) (c 0) (.mn (.mx (.mn (.mx 4 (c (-8))) (c 8)) (.mn (.mx (wx (.sub 2 (c 1))) (c (-8))) (c 8))) (.mn (.mx (wx (.add 2 (c 1))) (c (-8))) (c 8)))))) (jx (.ite 5 (c 0) (.ite (.cmp .neq (.mn (.mx (wx (.add 1 (.mn (.mx (.mn (.mx 4 (c (-8))) (c 8)) (.mn (.mx (wx (.sub 2 (c 1))) (c (-8))) (c 8))) (.mn (.mx (wx (.add 2 (c 1))) (c (-8))) (c 8))))) (c 0)) (wx (.mul (wx (.sub (.mn (.mx 6 (c 2)) (c 32)) (c 1))) (c 8)))) (wx (.add 1 (.mn (.mx (.mn (.mx 4 (c (-8))) (c 8)) (.mn (.mx (wx (.sub 2 (c 1))) (c (-8))) (c 8))) (.mn (.mx (wx (.add 2 (c 1))) (c (-8))) (c 8)))))) (c 0) (.mn (.mx (.mn (.mx 4 (c (-8))) (c 8)) (.mn (.mx (wx (.sub 2 (c 1))) (c (-8))) (c 8))) (.mn (.mx (wx (.add 2 (c 1))) (c (-8))) (c 8))))) (.mx 4 2)) (.lit false)) (.lit false)) (.lit false))))]:=by
 repeat' (first|exact .nil|refine au ?_ ?_)
 all_goals(
  intro ρ;(intro h;simp only[vS,IE.den,BE.den,LE.den]at h⊢;revert h;(try simp only[and_imp]);intros)
  by_cases hb:ρ.b 5=true
  ·simp only[hb,if_true]at*;omega
  ·have hb':ρ.b 5=false:=by simpa using hb
   simp(disch:=omega) only[hb',Bool.false_eq_true,if_false,cq]at*
   generalize hs:min (max (min (max (ρ.i 4) (-8)) 8) (min (max (ρ.i 2-1) (-8)) 8)) (min (max (ρ.i 2+1) (-8)) 8)=s at*
   have h1:s≤ρ.i 2+1∧ρ.i 2-1≤s∧min (ρ.i 4) (ρ.i 2)≤s∧s≤max (ρ.i 4) (ρ.i 2):=by omega
   clear hs
   grind)
theorem Gx:Y1.ok Tryz.prog:=ao aS.nil cy (a5t Gt (a5t Gu (a5t Gv Gw))) [3,4,5,6] (by kernel_rfl)
theorem BB:ab [([leq (c 0) 1,leq 1 2],leq (c 0) (.ite (ex 3 (c 2)) (.ite 4 1 (.mn (.mx (wx (.add 1 (c (-1)))) (c 0)) 2)) (.ite (ex 3 (c 1)) (.mn (.mx (wx (.add 1 (c 1))) (c 0)) 2) (.mn (.mx (wx (.add 1 (c 0))) (c 0)) 2)))),
([leq 1 2],leq (.ite (ex 3 (c 2)) (.ite 4 1 (.mn (.mx (wx (.add 1 (c (-1)))) (c 0)) 2)) (.ite (ex 3 (c 1)) (.mn (.mx (wx (.add 1 (c 1))) (c 0)) 2) (.mn (.mx (wx (.add 1 (c 0))) (c 0)) 2))) 2),
([leq 1 2,leq 2 (c 16)],leq (.sub 1 (c 1)) (.ite (ex 3 (c 2)) (.ite 4 1 (.mn (.mx (wx (.add 1 (c (-1)))) (c 0)) 2)) (.ite (ex 3 (c 1)) (.mn (.mx (wx (.add 1 (c 1))) (c 0)) 2) (.mn (.mx (wx (.add 1 (c 0))) (c 0)) 2)))),
([leq (c 0) 1],leq (.ite (ex 3 (c 2)) (.ite 4 1 (.mn (.mx (wx (.add 1 (c (-1)))) (c 0)) 2)) (.ite (ex 3 (c 1)) (.mn (.mx (wx (.add 1 (c 1))) (c 0)) 2) (.mn (.mx (wx (.add 1 (c 0))) (c 0)) 2))) (.add 1 (c 1))),
([leq (c 0) 1],.imp (.cmp .neq 3 (c 1)) (leq (.ite (ex 3 (c 2)) (.ite 4 1 (.mn (.mx (wx (.add 1 (c (-1)))) (c 0)) 2)) (.ite (ex 3 (c 1)) (.mn (.mx (wx (.add 1 (c 1))) (c 0)) 2) (.mn (.mx (wx (.add 1 (c 0))) (c 0)) 2))) 1))]:=dS
theorem BC:Pk.ok Tryz.prog:=ao aS.nil cy BB [3,4,5,6,7] (by kernel_rfl)
theorem BD:Pm.ok Tryz.prog:=ao aS.nil cy .nil [] (by kernel_rfl)
theorem a3i:af5.ok Tryz.prog:=ao aS.nil cy .nil [] (by kernel_rfl)
theorem a3j:ab [([leq (c 0) 1,leq 1 2],leq (c 0) (.mn (.mx (.mx (.mn (wx (.add (.mx (.mn 1 (c 1099511627776)) (c (-1099511627776))) (.mx (.mn (.mx 3 (c 0)) (c 1099511627776)) (c (-1099511627776))))) (c 1099511627776)) (c (-1099511627776))) (c 0)) 2)),
([],leq (.mn (.mx (.mx (.mn (wx (.add (.mx (.mn 1 (c 1099511627776)) (c (-1099511627776))) (.mx (.mn (.mx 3 (c 0)) (c 1099511627776)) (c (-1099511627776))))) (c 1099511627776)) (c (-1099511627776))) (c 0)) 2) 2)]:=dS
theorem a3k:af6.ok Tryz.prog:=ao aS.nil cy a3j [3,4] (by kernel_rfl)
theorem a3l:ab [([rx 16 [101,102,104,105,106,107,108,109,110,111,112,8,7,5,6] []],leq (c 1) 104),
([rx 16 [101,102,104,105,106,107,108,109,110,111,112,8,7,5,6] []],leq 104 (c 8)),
([rx 16 [101,102,104,105,106,107,108,109,110,111,112,8,7,5,6] []],leq (.sub (c 0) 104) (c 0)),
([rx 16 [101,102,104,105,106,107,108,109,110,111,112,8,7,5,6] []],leq (c 0) 104),
([rx 16 [101,102,104,105,106,107,108,109,110,111,112,8,7,5,6] []],leq (.sub (c 0) 104) (c 0)),
([rx 16 [101,102,104,105,106,107,108,109,110,111,112,8,7,5,6] []],leq (c 0) 104),
([rx 16 [101,102,104,105,106,107,108,109,110,111,112,8,7,5,6] []],leq (.sub (c 0) 104) (c 0)),
([rx 16 [101,102,104,105,106,107,108,109,110,111,112,8,7,5,6] []],leq (c 0) 104)]:=lm
theorem a3m:ab [([rx 12 [8,101,104,105,112,7,102,147,115] [2],leq (c 0) 150,lss 150 8],leq (.sub (c 0) 104) (gx 2 150 1)),
([rx 12 [8,101,104,105,112,7,102,147,115] [2],leq (c 0) 150,lss 150 8],leq (gx 2 150 1) 104)]:=by
  repeat' (first|exact .nil|refine au ?_ ?_)
  all_goals(
   intro ρ h;simp only[vS,IE.den,BE.den,LE.den]at h⊢
   obtain⟨h0,h1,h2⟩:=h
   try simp only[IntKind.wrap_i64]at*
   first|have y00:=h0.1 (ρ.i 150).toNat (by omega)|have y00:=True.intro
   try simp only[aC,fR,xh,XE,ae]at y00⊢
   omega)
theorem a3n:ab [([],rx 32 [8,150] [2,2]),
([],rx 32 [8,150] [2,2]),
([],rx 32 [8,150] [2,2]),
([],rx 32 [8,150] [2,2])]:=by
  repeat' (first|exact .nil|refine au ?_ ?_)
  all_goals(
   intro ρ h;simp only[vS,IE.den,BE.den,LE.den]at h⊢
   try simp only[IntKind.wrap_i64]at*
   intro a ha
   try simp only[aC,fR,xh,XE,ae]at⊢
   grind)
theorem a3o:ab [([],eql (gx 2 150 5) (gx 2 150 5)),
([],eql (gx 2 150 5) (gx 2 150 5)),
([],eql (gx 2 150 5) (gx 2 150 5)),
([],eql (gx 2 150 5) (gx 2 150 5)),
([],eql (gx 2 150 5) (gx 2 150 5))]:=dS
theorem ajt:ab [([leq (c 0) 150],rx 32 [8,150] [(ux (ux (ux 2 150 7 (gx 2 150 7)) 150 8 (.ite (ix (ix (ix (nx 151) (.lit true) (ex (gx 2 150 3) (c 0))) (.lit true) (ex (gx 2 150 3) (gx 2 150 4))) (.lit true) (.cmp .geq (gx 2 150 8) (c 3))) (gx 2 150 8) (wx (.add (gx 2 150 8) (c 1))))) 150 13 (.ite (ix (ix (ix (ix (nx 151) (.lit true) (ex (gx 2 150 3) (c 0))) (.lit true) (ex (gx 2 150 3) (gx 2 150 4))) (.lit true) (.cmp .geq (gx 2 150 8) (c 3))) (.lit false) (.lit true)) (c 1) (c 0))),2])]:=by
 repeat' (first|exact .nil|refine au ?_ ?_)
 all_goals(
  intro ρ h;simp only[vS,IE.den,BE.den,LE.den]at h⊢
  have h0:=h
  try simp only[IntKind.wrap_i64]at*
  intro a ha
  by_cases e:a=(ρ.i 150).toNat
  ·simp only[aC,fR,xh,XE,ae,e,true_and,if_true,and_false,false_and,if_false,reduceIte,Nat.reduceEqDiff]at⊢;grind
  ·simp only[aC,fR,xh,XE,ae,e,false_and,if_false]at⊢;grind)
theorem a3p:af8.ok Tryz.prog:=ao (.cons Bw (.cons kA .nil)) cy (a5t a3l (a5t a3m (a5t a3n (a5t a3o ajt)))) [0,0,0,0,0,0,0,0,3,4,11,12,0,0,0,0,0,0,0,0,13,5,6,17,13,2,2,17,13,2,2,17,22,5,6,17,13,5,6,17] (by kernel_rfl)
theorem JO:ab [([rx 12 [8,101,104,105,112,7,102,147,115] [2],leq (c 0) 150,lss 150 8],leq (c 0) (gx 2 150 14)),
([rx 12 [8,101,104,105,112,7,102,147,115] [2],leq (c 0) 150,lss 150 8],leq (c 0) (.ite (nx (jx 111 (gx 2 150 5))) (gx 2 150 5) (.mn (.mx (.mx (.mn (wx (.add (.mx (.mn (gx 2 150 5) (c 1099511627776)) (c (-1099511627776))) (.mx (.mn (wx (.sub (c 0) (.mx 111 (c 0)))) (c 1099511627776)) (c (-1099511627776))))) (c 1099511627776)) (c (-1099511627776))) (c 0)) (gx 2 150 6)))),
([rx 12 [8,101,104,105,112,7,102,147,115] [2],leq (c 0) 150,lss 150 8],leq (.ite (nx (jx 111 (gx 2 150 5))) (gx 2 150 5) (.mn (.mx (.mx (.mn (wx (.add (.mx (.mn (gx 2 150 5) (c 1099511627776)) (c (-1099511627776))) (.mx (.mn (wx (.sub (c 0) (.mx 111 (c 0)))) (c 1099511627776)) (c (-1099511627776))))) (c 1099511627776)) (c (-1099511627776))) (c 0)) (gx 2 150 6))) 112),
([rx 12 [8,101,104,105,112,7,102,147,115] [2],leq (c 0) 150,lss 150 8],leq (c 0) (.ite (nx (jx 111 (gx 2 150 5))) (gx 2 150 5) (.mn (.mx (.mx (.mn (wx (.add (.mx (.mn (gx 2 150 5) (c 1099511627776)) (c (-1099511627776))) (.mx (.mn (wx (.sub (c 0) (.mx 111 (c 0)))) (c 1099511627776)) (c (-1099511627776))))) (c 1099511627776)) (c (-1099511627776))) (c 0)) (gx 2 150 6)))),
([rx 12 [8,101,104,105,112,7,102,147,115] [2],leq (c 0) 150,lss 150 8],leq (.ite (nx (jx 111 (gx 2 150 5))) (gx 2 150 5) (.mn (.mx (.mx (.mn (wx (.add (.mx (.mn (gx 2 150 5) (c 1099511627776)) (c (-1099511627776))) (.mx (.mn (wx (.sub (c 0) (.mx 111 (c 0)))) (c 1099511627776)) (c (-1099511627776))))) (c 1099511627776)) (c (-1099511627776))) (c 0)) (gx 2 150 6))) 112),
([rx 12 [8,101,104,105,112,7,102,147,115] [2],leq (c 0) 150,lss 150 8],leq (c 0) (gx 2 150 5)),
([rx 12 [8,101,104,105,112,7,102,147,115] [2],leq (c 0) 150,lss 150 8],leq (gx 2 150 5) 112)]:=by
  repeat' (first|exact .nil|refine au ?_ ?_)
  all_goals(
   intro ρ h;simp only[vS,IE.den,BE.den,LE.den]at h⊢
   obtain⟨h0,h1,h2⟩:=h
   try simp only[IntKind.wrap_i64]at*
   first|have y00:=h0.1 (ρ.i 150).toNat (by omega)|have y00:=True.intro
   try simp only[aC,fR,xh,XE,ae]at y00⊢
   omega)
theorem JP:ab [([leq (c 0) 8,leq 8 (c 64),rx 16 [101,102,104,105,106,107,108,109,110,111,112,8,7,5,6] [],rx 12 [8,101,104,105,112,7,102,147,115] [2],.imp (.cmp .neq (.rem (gx 2 150 0) (c 8)) (c 0)) (leq 111 (gx 2 150 5)),leq (c 0) 150,lss 150 8],lss (gx 2 150 14) (.nat 5)),
([leq (c 0) 8,leq 8 (c 64),rx 16 [101,102,104,105,106,107,108,109,110,111,112,8,7,5,6] [],rx 12 [8,101,104,105,112,7,102,147,115] [2],.imp (.cmp .neq (.rem (gx 2 150 0) (c 8)) (c 0)) (leq 111 (gx 2 150 5)),leq (c 0) 150,lss 150 8],lss (.nat (gx 2 150 14)) (.nat 5))]:=by
  repeat' (first|exact .nil|refine au ?_ ?_)
  all_goals(
   intro ρ h;simp only[vS,IE.den,BE.den,LE.den]at h⊢
   obtain⟨h0,h1,h2,h3,h4,h5,h6⟩:=h
   have x:=h3.1 (ρ.i 150).toNat (by omega)
   simp only[vR]at h2 x
   clear h3 h4
   omega)
theorem JQ:ab [([leq (c 0) 150],rx 32 [8,150] [(ux (ux 2 150 5 (.ite (nx (jx 111 (gx 2 150 5))) (gx 2 150 5) (.mn (.mx (.mx (.mn (wx (.add (.mx (.mn (gx 2 150 5) (c 1099511627776)) (c (-1099511627776))) (.mx (.mn (wx (.sub (c 0) (.mx 111 (c 0)))) (c 1099511627776)) (c (-1099511627776))))) (c 1099511627776)) (c (-1099511627776))) (c 0)) (gx 2 150 6)))) 150 6 (gx 2 150 6)),2]),
([leq (c 0) 150],rx 32 [8,150] [(ux (ux 2 150 5 (.ite (nx (jx 111 (gx 2 150 5))) (gx 2 150 5) (.mn (.mx (.mx (.mn (wx (.add (.mx (.mn (gx 2 150 5) (c 1099511627776)) (c (-1099511627776))) (.mx (.mn (wx (.sub (c 0) (.mx 111 (c 0)))) (c 1099511627776)) (c (-1099511627776))))) (c 1099511627776)) (c (-1099511627776))) (c 0)) (gx 2 150 6)))) 150 6 (gx 2 150 6)),2])]:=by
  repeat' (first|exact .nil|refine au ?_ ?_)
  all_goals(
   intro ρ h;simp only[vS,IE.den,BE.den,LE.den]at h⊢
   have h0:=h
   try simp only[IntKind.wrap_i64]at*
   intro a ha
   by_cases e:a=(ρ.i 150).toNat
   ·simp only[aC,fR,xh,XE,ae,e,true_and,if_true,and_false,false_and,if_false,reduceIte,Nat.reduceEqDiff]at⊢;grind
   ·simp only[aC,fR,xh,XE,ae,e,false_and,if_false]at⊢;grind)
theorem JR:ab [([rx 16 [101,102,104,105,106,107,108,109,110,111,112,8,7,5,6] []],leq (.sub (c 0) 104) (.ite (.cmp .geq (gx 2 150 2) (gx 5 (gx 2 150 14) 6)) (c (-1)) (c 1))),
([rx 16 [101,102,104,105,106,107,108,109,110,111,112,8,7,5,6] []],leq (.ite (.cmp .geq (gx 2 150 2) (gx 5 (gx 2 150 14) 6)) (c (-1)) (c 1)) 104),
([rx 16 [101,102,104,105,106,107,108,109,110,111,112,8,7,5,6] []],leq (.sub (c 0) 104) (c 0)),
([rx 16 [101,102,104,105,106,107,108,109,110,111,112,8,7,5,6] []],leq (c 0) 104),
([rx 16 [101,102,104,105,106,107,108,109,110,111,112,8,7,5,6] []],leq (.sub (c 0) 104) (c 0)),
([rx 16 [101,102,104,105,106,107,108,109,110,111,112,8,7,5,6] []],leq (c 0) 104)]:=lm
theorem JS:ab [([leq (c 0) 8,leq 8 (c 64),rx 16 [101,102,104,105,106,107,108,109,110,111,112,8,7,5,6] [],rx 12 [8,101,104,105,112,7,102,147,115] [2],.imp (.cmp .neq (.rem (gx 2 150 0) (c 8)) (c 0)) (leq 111 (gx 2 150 5)),leq (c 0) 150,lss 150 8,fb (.cmp .gtr (.ite (ix (ex (.ite (.cmp .geq (gx 2 150 2) (gx 5 (gx 2 150 14) 6)) (c (-1)) (c 1)) (c 0)) (.lit true) (ex (.rem (gx 2 150 0) (c 8)) (c 0))) (c 0) (.ite (lx (.ite (.cmp .geq (gx 2 150 2) (gx 5 (gx 2 150 14) 6)) (c (-1)) (c 1)) (c 0)) (.rem (gx 2 150 0) (c 8)) (wx (.sub (c 8) (.rem (gx 2 150 0) (c 8)))))) (c 0))],.imp (.lit true) (eql (.ite (nx (jx 111 (gx 2 150 5))) (gx 2 150 5) (.mn (.mx (.mx (.mn (wx (.add (.mx (.mn (gx 2 150 5) (c 1099511627776)) (c (-1099511627776))) (.mx (.mn (wx (.sub (c 0) (.mx 111 (c 0)))) (c 1099511627776)) (c (-1099511627776))))) (c 1099511627776)) (c (-1099511627776))) (c 0)) (gx 2 150 6))) (.sub (gx 2 150 5) 111)))]:=by
 repeat' (first|exact .nil|refine au ?_ ?_)
 all_goals(
  intro ρ h;simp only[vS,IE.den,BE.den,LE.den]at h⊢
  obtain⟨h0,h1,h2,h3,h4,h5,h6,h7⟩:=h
  have x:=h3.1 (ρ.i 150).toNat (by omega)
  simp only[vR]at h2 x
  have hm:(ρ.l 2 (ρ.i 150).toNat 0).tmod 8≠0:=by grind
  have hb:=h4 hm
  clear h3 h4 h7
  intro _
  simp only[IntKind.wrap_i64];omega)
theorem JT:ab [([],.imp (.lit false) (eql (.ite (nx (jx 111 (gx 2 150 5))) (gx 2 150 5) (.mn (.mx (.mx (.mn (wx (.add (.mx (.mn (gx 2 150 5) (c 1099511627776)) (c (-1099511627776))) (.mx (.mn (wx (.sub (c 0) (.mx 111 (c 0)))) (c 1099511627776)) (c (-1099511627776))))) (c 1099511627776)) (c (-1099511627776))) (c 0)) (gx 2 150 6))) (.sub (gx 2 150 5) 111))),
([],.imp (.lit false) (eql (gx 2 150 5) (.sub (gx 2 150 5) 111)))]:=kj
theorem lj:ab [([],rx 32 [8,150] [2,2])]:=by
 repeat' (first|exact .nil|refine au ?_ ?_)
 all_goals(
  intro ρ h;simp only[vS,IE.den,BE.den,LE.den]at h⊢
  try simp only[IntKind.wrap_i64]at*
  intro a ha
  try simp only[aC,fR,xh,XE,ae]at⊢
  grind)
theorem JU:a7c.ok Tryz.prog:=ao (.cons kA .nil) cy (a5t JO (a5t JP (a5t JQ (a5t JR (a5t JS (a5t JT lj)))))) [0,0,3,10,11,0,0,0,0,0,0,0,0,12,14,15,20,4,5,12,16,17,21,4,5,23,16,17,22,8,9] (by kernel_rfl)
theorem TZ:ab [([rx 12 [8,101,104,105,112,7,102,147,115] [2]],rx 12 [8,101,104,105,112,7,102,147,115] [(ux 2 150 13 (.ite (ix (ix (.cmp .neq (gx 2 150 13) (c 0)) (ex 147 (c 0)) (.lit false)) (nx (ex (gx 2 150 3) (gx 2 150 4))) (.lit false)) (c 1) (c 0)))]),
([rx 12 [8,101,104,105,112,7,102,147,115] [2]],rx 12 [8,101,104,105,112,7,102,147,115] [(ux 2 150 13 (.ite (ix (ix (.cmp .neq (gx 2 150 13) (c 0)) (ex 147 (c 0)) (.lit false)) (nx (ex (gx 2 150 3) (gx 2 150 4))) (.lit false)) (c 1) (c 0)))])]:=by
  repeat' (first|exact .nil|refine au ?_ ?_)
  all_goals(
   intro ρ h;simp only[vS,IE.den,BE.den,LE.den]at h⊢
   have h0:=h
   try simp only[IntKind.wrap_i64]at*
   refine⟨fun a ha=>?_,fun a b ha hb=>?_⟩
   ·first|have xa0:=h0.1 a ha|have xa0:=True.intro
    by_cases e:a=(ρ.i 150).toNat
    ·simp only[aC,fR,xh,XE,ae,e,true_and,if_true,and_false,false_and,if_false,reduceIte,Nat.reduceEqDiff]at xa0⊢;grind
    ·simp only[aC,fR,xh,XE,ae,e,false_and,if_false]at xa0⊢;grind
   ·first|have z0:=h0.2 a b ha hb|have z0:=True.intro
    first|have xa0:=h0.1 a ha|have xa0:=True.intro
    first|have xb0:=h0.1 b hb|have xb0:=True.intro
    try simp only[aC,fR,xh,XE,ae]at z0 xa0 xb0⊢
    grind)
theorem U0:ab [([.imp 219 (.imp (.cmp .neq (.rem (gx 2 150 0) (c 8)) (c 0)) (leq 111 (gx 2 150 5))),fb 219],.imp (.cmp .neq (.rem (gx 2 150 0) (c 8)) (c 0)) (leq 111 (gx 2 150 5))),
([],.imp (.lit false) (fb (ix (ix (.cmp .neq (gx 2 150 11) (c (-1))) (.cmp .neq 148 (c 0)) (.lit false)) (.lit true) (ix (ex (gx 2 150 5) (.sub (gx 2 150 5) 111)) (.cmp .neq 147 (c 0)) (.lit false))))),
([.imp 203 (fb (ix (.cmp .neq (gx 2 150 11) (c (-1))) (.cmp .neq 148 (c 0)) (.lit false))),fb 203],.imp (nx 208) (fb (ix (ix (.cmp .neq (gx 2 150 11) (c (-1))) (.cmp .neq 148 (c 0)) (.lit false)) (.lit true) (ix (ex (gx 206 150 5) (.sub (gx 2 150 5) 111)) (.cmp .neq 147 (c 0)) (.lit false))))),
([],.imp (.lit false) (fb (ix (ix (.cmp .neq (gx 2 150 11) (c (-1))) (.cmp .neq 148 (c 0)) (.lit false)) (.lit true) (ix (ex (gx 2 150 5) (.sub (gx 2 150 5) 111)) (.cmp .neq 147 (c 0)) (.lit false))))),
([.imp (nx 224) (eql (gx 222 150 5) (.sub (gx 2 150 5) 111)),.imp 219 (fb (.cmp .neq 147 (c 0))),fb 219],.imp (nx 224) (fb (ix (ix (.cmp .neq (gx 2 150 11) (c (-1))) (.cmp .neq 148 (c 0)) (.lit false)) (.lit true) (ix (ex (gx 222 150 5) (.sub (gx 2 150 5) 111)) (.cmp .neq 147 (c 0)) (.lit false))))),
([],.imp (.lit false) (fb (ix (ix (.cmp .neq (gx 2 150 11) (c (-1))) (.cmp .neq 148 (c 0)) (.lit false)) (.lit true) (ix (ex (gx 2 150 5) (.sub (gx 2 150 5) 111)) (.cmp .neq 147 (c 0)) (.lit false)))))]:=kj
theorem U1:ab [([leq (c 0) 150],rx 32 [8,150] [(ux 2 150 13 (.ite (ix (ix (.cmp .neq (gx 2 150 13) (c 0)) (ex 147 (c 0)) (.lit false)) (nx (ex (gx 2 150 3) (gx 2 150 4))) (.lit false)) (c 1) (c 0))),2]),
([leq (c 0) 150],rx 32 [8,150] [(ux 2 150 13 (.ite (ix (ix (.cmp .neq (gx 2 150 13) (c 0)) (ex 147 (c 0)) (.lit false)) (nx (ex (gx 2 150 3) (gx 2 150 4))) (.lit false)) (c 1) (c 0))),2]),
([leq (c 0) 150],rx 32 [8,150] [(ux 2 150 13 (.ite (ix (ix (.cmp .neq (gx 2 150 13) (c 0)) (ex 147 (c 0)) (.lit false)) (nx (ex (gx 2 150 3) (gx 2 150 4))) (.lit false)) (c 1) (c 0))),2])]:=by
  repeat' (first|exact .nil|refine au ?_ ?_)
  all_goals(
   intro ρ h;simp only[vS,IE.den,BE.den,LE.den]at h⊢
   have h0:=h
   try simp only[IntKind.wrap_i64]at*
   intro a ha
   by_cases e:a=(ρ.i 150).toNat
   ·simp only[aC,fR,xh,XE,ae,e,true_and,if_true,and_false,false_and,if_false,reduceIte,Nat.reduceEqDiff]at⊢;grind
   ·simp only[aC,fR,xh,XE,ae,e,false_and,if_false]at⊢;grind)
theorem U2:ab [([rx 16 [101,102,104,105,106,107,108,109,110,111,112,8,7,5,6] []],leq (.sub (c 0) 104) (c 0)),
([rx 16 [101,102,104,105,106,107,108,109,110,111,112,8,7,5,6] []],leq (c 0) 104),
([rx 16 [101,102,104,105,106,107,108,109,110,111,112,8,7,5,6] []],leq (.sub (c 0) 104) (c 0)),
([rx 16 [101,102,104,105,106,107,108,109,110,111,112,8,7,5,6] []],leq (c 0) 104),
([rx 16 [101,102,104,105,106,107,108,109,110,111,112,8,7,5,6] []],leq (.sub (c 0) 104) (c 0)),
([rx 16 [101,102,104,105,106,107,108,109,110,111,112,8,7,5,6] []],leq (c 0) 104)]:=lm
theorem U3:ab [([rx 12 [8,101,104,105,112,7,102,147,115] [2],leq (c 0) 150,lss 150 8],leq (c 0) (gx 2 150 5)),
([rx 12 [8,101,104,105,112,7,102,147,115] [2],leq (c 0) 150,lss 150 8],leq (gx 2 150 5) 112),
([rx 12 [8,101,104,105,112,7,102,147,115] [2],leq (c 0) 150,lss 150 8],leq (c 0) (gx 2 150 5)),
([rx 12 [8,101,104,105,112,7,102,147,115] [2],leq (c 0) 150,lss 150 8],leq (gx 2 150 5) 112),
([rx 12 [8,101,104,105,112,7,102,147,115] [2],leq (c 0) 150,lss 150 8],leq (c 0) (gx 2 150 5)),
([rx 12 [8,101,104,105,112,7,102,147,115] [2],leq (c 0) 150,lss 150 8],leq (gx 2 150 5) 112)]:=by
  repeat' (first|exact .nil|refine au ?_ ?_)
  all_goals(
   intro ρ h;simp only[vS,IE.den,BE.den,LE.den]at h⊢
   obtain⟨h0,h1,h2⟩:=h
   try simp only[IntKind.wrap_i64]at*
   first|have y00:=h0.1 (ρ.i 150).toNat (by omega)|have y00:=True.intro
   try simp only[aC,fR,xh,XE,ae]at y00⊢
   omega)
theorem U4:ab [([leq (c 0) 150,rx 32 [8,150] [206,(ux 2 150 13 (.ite (ix (ix (.cmp .neq (gx 2 150 13) (c 0)) (ex 147 (c 0)) (.lit false)) (nx (ex (gx 2 150 3) (gx 2 150 4))) (.lit false)) (c 1) (c 0)))]],rx 32 [8,150] [206,2]),
([leq (c 0) 150,rx 32 [8,150] [222,(ux 2 150 13 (.ite (ix (ix (.cmp .neq (gx 2 150 13) (c 0)) (ex 147 (c 0)) (.lit false)) (nx (ex (gx 2 150 3) (gx 2 150 4))) (.lit false)) (c 1) (c 0)))]],rx 32 [8,150] [222,2])]:=by
  repeat' (first|exact .nil|refine au ?_ ?_)
  all_goals(
   intro ρ h;simp only[vS,IE.den,BE.den,LE.den]at h⊢
   obtain⟨h0,h1⟩:=h
   try simp only[IntKind.wrap_i64]at*
   intro a ha
   first|have xa1:=h1 a ha|have xa1:=True.intro
   try simp only[aC,fR,xh,XE,ae]at xa1⊢
   grind)
theorem lv:ab [([rx 12 [8,101,104,105,112,7,102,147,115] [2],leq (c 0) 150,lss 150 8,eql (gx 206 150 5) (gx 2 150 5)],leq (c 0) (gx 206 150 5)),
([rx 12 [8,101,104,105,112,7,102,147,115] [2],leq (c 0) 150,lss 150 8,eql (gx 206 150 5) (gx 2 150 5)],leq (gx 206 150 5) 112)]:=by
  repeat' (first|exact .nil|refine au ?_ ?_)
  all_goals(
   intro ρ h;simp only[vS,IE.den,BE.den,LE.den]at h⊢
   obtain⟨h0,h1,h2,h3⟩:=h
   try simp only[IntKind.wrap_i64]at*
   first|have y00:=h0.1 (ρ.i 150).toNat (by omega)|have y00:=True.intro
   try simp only[aC,fR,xh,XE,ae]at y00⊢
   omega)
theorem U5:acq.ok Tryz.prog:=ao (.cons a3h (.cons a3p (.cons kA (.cons m7 (.cons JU .nil))))) cy (a5t TZ (a5t U0 (a5t U1 (a5t U2 (a5t U3 (a5t U4 lv)))))) [2,0,0,0,0,0,0,3,0,0,0,0,3,3,5,11,14,15,6,20,21,26,2,2,7,28,29,11,14,15,6,20,21,27,2,2,9,2,2,11,14,15,6,20,21] (by kernel_rfl)
end Go.Proofs.YteelgjcnkhmigaaGreatDoor.K
