/- For every input TopCutOff returns true, and each argument reads behind the call as it read before: part 8 of the proof. -/
import Derived.Test.YteelgjcnkhmigaaGreatDoorA7
import Derived.Test.YteelgjcnkhmigaaGreatDoorTie
import Derived.Test.YteelgjcnkhmigaaGreatDoorCards
import Derived.SevenTiedAt
set_option linter.unusedVariables false
set_option linter.unusedSimpArgs false
set_option linter.unusedSectionVars false
set_option maxHeartbeats 0
set_option maxRecDepth 100000
namespace Go.Proofs.YteelgjcnkhmigaaGreatDoor.K
open Go.ChangeShapes Go.WideShapes Go.ChangeAt Go.WideMaps Go.WideElems Go.RowKit Go.Deep Go.Proofs.YteelgjcnkhmigaaGreatDoor.E
set_option maxRecDepth 100000 in
theorem alq(os:Os)(started:os.Started)(H:Type)(enc:TypeId×Value→H):
 ReturnsInHanded {} Tryz.checked os 5 .any (fun w args=>(Rows.topCutOffSpec.pre enc Tryz.prog Tryz.f5 [] false w args∧laidMetH Tryz.prog vh w)∧sizedMet enc Tryz.prog Tryz.f5 (OpenSpec.ofChange Rows.topCutOffSpec) false w args)
  (Rows.topCutOffSpec.post enc Tryz.prog Tryz.f5 false true false false):=by
 refine returnsInHanded_of_change_and (C:=Tryz.checked) (X:=fun w _=>laidMetH Tryz.prog vh w) (fun _ _ _ hh h=>h.of_heap hh) own started (by kernel_rfl) Tryz.func5
  (ChangeSpec.witness_shaped (enc:=enc) (C:=Tryz.checked) (os:=os) (X:=fun w _=>laidMetH Tryz.prog vh w) false (World.doorLaid Tryz.prog 400 os)
    #[.agg #[.slice none 0 0,.int .u8 0,.int .u8 0,.int .u8 0,.int .u8 0,.int .u8 0,.int .u8 0,.int .u8 0,.int .u8 0,.int .u8 0,.int .u8 0,.int .u8 0,.int .u16 0,.int .i64 0,.int .i64 0,.int .i64 0,.int .i64 0,.int .i64 0,.int .i64 0],.slice none 0 0] 8
    rfl (World.shaped_of_RefB (by kernel_rfl) (by kernel_rfl)) (by kernel_rfl) (by kernel_rfl) (by kernel_rfl) (Yc os _)) ?_
 intro W base args ds gs before hval0 hW _ hsz0 hL _
 have hval:∀(j:Nat) t v,Tryz.f5.params[j]? =some t→args[j]? =some v→Value.okWide Tryz.prog W .any base t v:=hval0
 have hsz:(DataW.weightsEach Tryz.prog (Tryz.f5.params.toList++Rows.topCutOffSpec.plain.varTypes Tryz.prog) (ds++gs)).all (· ≤reachBytes)=true:=hsz0
 have hW':=hW
 obtain⟨p,q,hA0,hV,rfl,hfz,hnd⟩:=hW
 have hA:DataW.TrodAll enc Tryz.prog W 0 (fun _=>true) true Tryz.f5.params.toList args.toList ds p:=hA0
 rw[Tryz.params5]at hA hval hsz
 obtain⟨v0,vs0,d0,ds0,p0,q0,hargs,rfl,rfl,h0,r0⟩:=trodAll_cons hA
 obtain⟨v1,vs1,d1,ds1,p1,q1,rfl,rfl,rfl,h1,r1⟩:=trodAll_cons r0
 obtain⟨rfl,rfl,rfl⟩:=trodAll_nil r1
 obtain rfl:args=#[v0,v1]:=by cases args;simp_all
 obtain⟨rfl,rfl⟩:=trodVars_none hV
 have hw:∀n,n∈DataW.weightsEach Tryz.prog ([27,28]++Rows.topCutOffSpec.plain.varTypes Tryz.prog) ([d0,d1]++[])→n≤reachBytes:=fun n hn=>of_decide_eq_true (List.all_eq_true.1 hsz n hn)
 have hw0:Pp Tryz.prog 27 d0:=fun n hn=>hw n (eg 0 rfl rfl hn)
 have hw1:Pp Tryz.prog 28 d1:=fun n hn=>hw n (eg 1 rfl rfl hn)
 have k0:=h0
 have k1:=h1
 have lt0:∀x∈p0,x.block<W.heap.size:=by obtain⟨m,hm⟩:=k0;exact DataW.trod_lt m _ _ _ hm
 have lt1:∀x∈p1,x.block<W.heap.size:=by obtain⟨m,hm⟩:=k1;exact DataW.trod_lt m _ _ _ hm
 obtain⟨cs,a,len,cap,rfl,c19,e0,e8,e16,e64,b0,b1,b2⟩:=Pq (hval 0 27 v0 rfl rfl) h0 hw0
 obtain⟨a1,bc,cap1,rfl⟩:=okWide_slice Tryz.underlying28 (hval 1 28 v1 rfl rfl)
 obtain⟨b3,b4,b5⟩:=Y9 h1 hw1
 have hok:HN W cs a len cap a1 bc cap1:=⟨fun i hi1 hi2=>by obtain⟨n,e,h1,h2⟩:=e8 i hi1 hi2;rw[e];exact⟨h1,h2⟩,by obtain⟨n,e,h1,h2⟩:=e16;rw[e];exact⟨h1,h2⟩,b0,b1,b2,b3,b4,b5⟩
 clear hA0 hval0 hsz0 hsz hw
 refine(Yb arh (Ya 5 c19 e0 e8 e16 e64) hok hL).mono fun e W' ⟨he,bel⟩=>?_
 subst he
 exact⟨_,rfl,_,_,_,[],_,[],hW',trodAll_mk1 (shut_bool Tryz.underlying4 _),(trodAll_cons_mk (Below.trod Nu (by kernel_rfl) (of_decide_eq_true (by kernel_rfl)) k0 bel lt0) (trodAll_cons_mk (Below.trod Nu (by kernel_rfl) (of_decide_eq_true (by kernel_rfl)) k1 bel lt1) trodAll_mk0)),rfl,bel.frame _,fun h=>by cases h⟩
theorem als:Rows.TopCutOffSaid:=
 OpenClaim.holds_of_wide 5 Tryz.f5 rfl rfl rfl rfl rfl rfl rfl ⟨rfl,rfl,rfl,rfl,rfl⟩ rfl rfl rfl rfl rfl (by kernel_rfl) Tryz.func5 (by kernel_rfl)
  (of_decide_eq_true (by kernel_rfl)) (by unfold Func.isWrapper;first|(rw[if_pos (by decide+kernel)];kernel_rfl)|(rw[if_neg (by decide+kernel)];exact⟨rfl,rfl⟩))
  (fun os started H enc _=>alq os started H enc)
end Go.Proofs.YteelgjcnkhmigaaGreatDoor.K
namespace Go.Proofs.YteelgjcnkhmigaaGreatDoor
open Go
theorem topCutOff_card:Rows.TopCutOffCardSaid:=
 Claim7.holds_tied_plain_at .later [] [.data, .data, .data] true (true, "7e05f1e002e4a07ff51b471aed4690dc07bebdfe1e59c6035cbeeddad200dfe4") false
  K.als (fun _ h=>by cases h) (by kernel_rfl) (fun _ h=>by cases h) topCutOff_row_tie rfl ⟨rfl,rfl⟩ (by kernel_rfl) rfl
  (fun f fn hf hfn=>by
    obtain rfl : f = 5 := Option.some.inj ((show Tryz.prog.funcNamed "paternoster/paternostertop.TopCutOff" = some 5 by kernel_rfl).symm.trans hf) |>.symm
    obtain rfl:fn=Tryz.f5:=(Option.some.inj (Tryz.func5.symm.trans hfn)).symm
    exact⟨by kernel_rfl,fun j t ht=>by
     rw[Tryz.params5]at ht
     have hm:t∈[27,28]:=by simpa using Array.mem_of_getElem? ht
     have hall:([27,28].all fun u=>!Tryz.prog.wantsStandIn u)=true:=by kernel_rfl
     exact(show Tryz.prog.wantsStandIn t=false by simpa using List.all_eq_true.1 hall t hm)⟩)
  (by kernel_rfl)
end Go.Proofs.YteelgjcnkhmigaaGreatDoor
