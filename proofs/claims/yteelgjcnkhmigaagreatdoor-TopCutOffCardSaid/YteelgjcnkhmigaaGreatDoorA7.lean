/- Part 7 of the proofs of TopPhases, TopDoors and TopCutOff (over all inputs, no condition): the executor, and what the functions that they reach do. -/
import Derived.Test.YteelgjcnkhmigaaGreatDoorA6
import Derived.Test.YteelgjcnkhmigaaGreatDoorRows
import Derived.WalkKit
import Derived.ProofKit
import Derived.OpenShut
import Derived.ShutString
import Derived.ChangeOld
import Derived.Below
import Derived.Carry
import Derived.SizedLaws
import Derived.Lib.SmallJoins
import Derived.Deep.Slices
import Derived.Deep.Fields
import Derived.ChangeSame
import Derived.LaidMore
import Derived.Stop.Joined
set_option linter.unusedVariables false
set_option linter.unusedSimpArgs false
set_option linter.unusedSectionVars false
set_option maxHeartbeats 0
set_option maxRecDepth 100000
namespace Go.Proofs.YteelgjcnkhmigaaGreatDoor.K
open Go.ChangeShapes Go.WideShapes Go.ChangeAt Go.RowKit Go.Deep Go.Proofs.YteelgjcnkhmigaaGreatDoor.E
section
def Y7:List Int:=[0x00000000,0x1db71064,0x3b6e20c8,0x26d930ac,0x76dc4190,0x6b6b51f4,0x4db26158,0x5005713c,0xedb88320,0xf00f9344,0xd6d6a3e8,0xcb61b38c,0x9b64c2b0,0x86d3d2d4,0xa00ae278,0xbdbdf21c]
theorem qA{P:Program}{W:World}{n:String}{g:Nat}{cs:Array Value}(hg:P.globalNamed n=some g)(h:W.var? P n=some cs):∃t f,W.heap[g]? =some (.cells cs t f):=by
 unfold World.var? at h
 rw[hg]at h
 simp only[Option.bind_some]at h
 split at h
 ·rename_i c t f hh
  obtain rfl:=Option.some.inj h
  exact⟨t,f,hh⟩
 ·cases h
theorem qC{P:Program}{W:World}{t e:TypeId}{n:Nat}{k:IntKind}{cs:Array Value}{l:List Int}{fuel:Nat}{p:List MemPlace}(ht:P.underlying t=some (.array n e))(he:P.underlying e=some (.int k))(hc:P.cellsOf e=1)(hC:P.cellsOf t=n)
 (h:DataW.trod (fun _=>()) P W 0 (fun _=>true) false fuel t cs.toList=some (.agg (l.map fun a=> .lit (.int k a)),p)):cs=(l.map (Value.int k)).toArray:=by
 obtain⟨xs,m,rfl,hx,hlen,hxl,hel⟩:=DataW.trod_array ht h
 rw[hC,Array.length_toList]at hlen
 simp only[Prod.mk.injEq,DataW.agg.injEq]at hx
 have hxm:xs.map (·.1)=l.map fun a=> .lit (.int k a):=hx.1.symm
 have hll:l.length=n:=by
  have:=congrArg List.length hxm
  simpa [hxl] using this.symm
 apply Array.ext'
 apply List.ext_getElem?
 intro i
 rw[List.toList_toArray,List.getElem?_map]
 by_cases hi:i<n
 ·have h1:=hel i hi
  rw[hc,Nat.mul_one]at h1
  have hcs:(cs.toList.drop i).take 1=[cs.toList[i]'(by simpa [hlen] using hi)]:=by
   rw[List.drop_eq_getElem_cons (by simpa [hlen] using hi)];rfl
  rw[hcs]at h1
  have hxi:xs[i]? =some (xs[i]'(by omega)):=List.getElem?_eq_getElem (by omega)
  rw[hxi]at h1
  obtain⟨a,e1,e2,_⟩:=DataW.trod_int he h1
  have e3:(xs.map (·.1))[i]? =(l.map fun a=>(.lit (.int k a):DataW Unit))[i]? :=by rw[hxm]
  rw[List.getElem?_map,List.getElem?_map,hxi,List.getElem?_eq_getElem (by omega)]at e3
  simp only[Option.map_some,Option.some.injEq,e2]at e3
  have e4:a=l[i]'(by omega):=by
   injection e3 with e3;injection e3
  rw[List.getElem?_eq_getElem (by simpa [hlen] using hi),List.getElem?_eq_getElem (show i<l.length by omega)]
  have:=List.head_eq_of_cons_eq e1
  simp only[Option.map_some,this,e4]
 ·rw[List.getElem?_eq_none (by simpa [hlen] using hi),List.getElem?_eq_none (show l.length≤i by omega)];rfl
theorem aaq: Tryz.prog.globalNamed "paternoster/crc.half" = some 0 := by kernel_rfl
theorem afm: Tryz.prog.globalNamed "math/bits.deBruijn32tab" = some 1 := by kernel_rfl
theorem afn: Tryz.prog.globalNamed "math/bits.deBruijn64tab" = some 2 := by kernel_rfl
theorem afo:(Tryz.prog.globals[0]?).map (·.type)=some 290:=by kernel_rfl
theorem ahf:(Tryz.prog.globals[1]?).map (·.type)=some 294:=by kernel_rfl
theorem ahg:(Tryz.prog.globals[2]?).map (·.type)=some 295:=by kernel_rfl
def vh: List (String × DataW Unit) := [("math/bits.deBruijn32tab", Rows.laid_math_bits_deBruijn32tab), ("math/bits.deBruijn64tab", Rows.laid_math_bits_deBruijn64tab), ("paternoster/crc.half", Rows.laid_paternoster_crc_half)]
theorem a7k{W:World}(h:laidMetH Tryz.prog vh W):(∃t f,W.heap[0]? =some (.cells (Y7.map (Value.int .u32)).toArray t f))∧(∃t f,W.heap[1]? =some (.cells (dI.map (Value.int .u8)).toArray t f))∧∃t f,W.heap[2]? =some (.cells (np.map (Value.int .u8)).toArray t f):=by
 rw[MakeChecks.laidMetH_plain _ _ _ (by kernel_rfl)]at h
 obtain⟨ps,⟨g1,t1,cs1,f1,p1,q1,hg1,ht1,hv1,hd1,⟨g2,t2,cs2,f2,p2,q2,hg2,ht2,hv2,hd2,⟨g0,t0,cs0,f0,p0,q0,hg0,ht0,hv0,hd0,_,_⟩,_⟩,_⟩,_,_⟩:=h
 obtain rfl:=Option.some.inj (aaq.symm.trans hg0)
 obtain rfl:=Option.some.inj (afm.symm.trans hg1)
 obtain rfl:=Option.some.inj (afn.symm.trans hg2)
 obtain rfl:=Option.some.inj (afo.symm.trans ht0)
 obtain rfl:=Option.some.inj (ahf.symm.trans ht1)
 obtain rfl:=Option.some.inj (ahg.symm.trans ht2)
 have e0:=qC (k:=.u32) (l:=Y7) Tryz.underlying290 Tryz.underlying72 (by kernel_rfl) (by kernel_rfl) hd0
 have e1:=qC (k:=.u8) (l:=dI) Tryz.underlying294 Tryz.underlying5 (by kernel_rfl) (by kernel_rfl) hd1
 have e2:=qC (k:=.u8) (l:=np) Tryz.underlying295 Tryz.underlying5 (by kernel_rfl) (by kernel_rfl) hd2
 obtain⟨a0,b0,c0⟩:=qA aaq hv0
 obtain⟨a1,b1,c1⟩:=qA afm hv1
 obtain⟨a2,b2,c2⟩:=qA afn hv2
 rw[e0]at c0;rw[e1]at c1;rw[e2]at c2
 exact⟨⟨_,_,c0⟩,⟨_,_,c1⟩,⟨_,_,c2⟩⟩
def iV:Option Value→Int
 |some (.int _ n)=>n
 |some (.bool b)=>if b then 1 else 0
 |_=>0
def ad8:Option Value→Int
 |some (.slice _ n _)=>n
 |_=>0
def oz(W:World)(a:Option Addr)(q:Nat):Option Value:=a.bind fun x=>W.cell? (x.add q)
def ad9(a:Option Addr):Nat:=match a with|some x=>x.block|none=>0
def a7l(a:Option Addr):Nat:=match a with|some x=>x.off|none=>0
def oA(W:World)(cs:Array Value)(a:Option Addr)(len cap:Nat)(a1:Option Addr)(bc cap1:Nat):ap where
 i:=fun v=>if v=20 then len else if v=21 then bc else iV cs[v-120]?
 b:=fun v=>if v=20 then decide (0<len)else decide (0<bc)
 k:=fun v=>if v=20 then ad9 a else if v=21 then ad9 a1 else if v=18 then 1 else if v=19 then 2 else 0
 f:=fun v _=>if v=20 then a7l a else a7l a1
 l:=fun v i j=>if v=20 then iV (oz W a (i*1+j))else if v=21 then iV (oz W a1 (i*5+j))else ad8 (oz W a1 (i*5+4))
 x:=fun v=>if v=20 then .slice a len cap else .slice a1 bc cap1
 y:=fun v i=>(oz W a1 (i*5+4)).getD undef
theorem tI{W:World}{x:Addr}{v:Value}(h:W.cell? x=some v):x.spot=none∧∃cs e z,W.heap[x.block]? =some (.cells cs e z):=by
 unfold World.cell? at h
 split at h
 ·rename_i c e z hh
  split at h
  ·cases h
  ·rename_i hs
   exact⟨by simpa using hs,c,e,z,hh⟩
 ·cases h
theorem vi{ρ:ap}{id:Nat}{W:World}{ks:List CK}{n:IE}{le:LE}{a:Option Addr}{len cap:Nat}(hx:ρ.x id=.slice a len cap)(hb:ρ.b id=decide (0<len))(hn:(n.den ρ).toNat=len)
 (hk:ρ.k id=ad9 a∧ρ.f id 0=a7l a) (hl:len≤cap) (hz:0<ks.length)
 (hc:len=0∨∃x,a=some x∧∀i,i<len→∀(j:Nat) (k:CK),ks[j]? =some k→W.cell? (x.add (i*ks.length+j))=some (k.v ρ i (le.den ρ i j))):(am.lst 0 ks n le).holds ρ id W:=by
 simp only[am.holds,hn,hb,hx,hk.1,hk.2]
 refine⟨fun h=>?_,fun h=>?_⟩
 ·have:len=0:=by have:=of_decide_eq_false h;omega
  subst this
  exact⟨rfl,.inr ⟨trivial,a,cap,rfl⟩⟩
 ·have hpos:=of_decide_eq_true h
  rcases hc with hc|⟨x,rfl,hc⟩
  ·omega
  ·have h0:=hc 0 hpos 0 _ (List.getElem?_eq_getElem hz)
   obtain⟨hsp,cs,e,z,hh⟩:=tI h0
   have hadd0:x.add (0*ks.length+0)=x:=by simp[Addr.add]
   rw[hadd0]at hsp hh
   obtain⟨xb,xo,xs⟩:=x
   simp only at hsp hh
   subst hsp
   refine⟨cs,cap,rfl,.inr ⟨rfl,e,z,hh⟩,.inl trivial,hl,fun i hi j k hkj=>?_⟩
   have h3:=hc i hi j k hkj
   rw[E.ba]at h3
   simp only[World.cell?,hh,Option.isSome_none,Bool.false_eq_true,if_false]at h3
   rw[←h3]
   simp only[a7l]
   congr 1;omega
structure HN (W:World) (cs:Array Value) (a:Option Addr) (len cap:Nat) (a1:Option Addr) (bc cap1:Nat):Prop where
 u8:∀i,1≤i→i≤11→0≤iV cs[i]? ∧iV cs[i]? ≤255
 u16:0≤iV cs[12]? ∧iV cs[12]? ≤65535
 l0:len≤cap
 b0:len≤4611686018427387904
 c0:len=0∨∃x,a=some x∧∀i,i<len→∃n,W.cell? (x.add i)=some (.int .u8 n)∧0≤n∧n≤255
 l1:bc≤cap1
 b1:bc≤4611686018427387904
 c1:bc=0∨∃x,a1=some x∧∀i,i<bc→(∃p,W.cell? (x.add (i*5+0))=some (.bool p))∧(∃p,W.cell? (x.add (i*5+1))=some (.bool p))∧(∃n,W.cell? (x.add (i*5+2))=some (.int .i64 n))∧(∃n,W.cell? (x.add (i*5+3))=some (.int .u64 n))∧
  ∃y m c,W.cell? (x.add (i*5+4))=some (.slice y m c)∧nw W 0 [.i64,.i64,.i64] (m:Int) (.slice y m c)
section
variable {W : World} {cs : Array Value} {a : Option Addr} {len cap : Nat} {a1 : Option Addr} {bc cap1 : Nat} (h : HN W cs a len cap a1 bc cap1)
include h
theorem Y8:ar (oA W cs a len cap a1 bc cap1) (zF++inF):=by
 intro f hf
 simp only[zF,inF,List.mem_append,List.mem_cons,List.mem_flatMap,List.mem_range,List.not_mem_nil,or_false]at hf
 rcases hf with((rfl|⟨i,hi,rfl|rfl⟩)|rfl|rfl|rfl|rfl)|rfl|rfl
 ·refine tz.2 ?_
  show∀q:Nat,(q:Int)<(len:Int)→0≤iV (oz W a (q*1+0))
  intro q hq
  rcases h.c0 with h0|⟨x,rfl,hc⟩
  ·omega
  ·obtain⟨n,h1,h2,_⟩:=hc q (by omega)
   simp only[oz,Option.bind_some,Nat.mul_one,Nat.add_zero,h1,iV];exact h2
 ·refine bD.2 ?_
  show(0:Int)≤(if 121+i=20 then _ else if 121+i=21 then _ else iV cs[121+i-120]?)
  rw[if_neg (by omega),if_neg (by omega),show 121+i-120=1+i by omega]
  exact(h.u8 (1+i) (by omega) (by omega)).1
 ·refine bD.2 ?_
  show(if 121+i=20 then _ else if 121+i=21 then _ else iV cs[121+i-120]?)≤(255:Int)
  rw[if_neg (by omega),if_neg (by omega),show 121+i-120=1+i by omega]
  exact(h.u8 (1+i) (by omega) (by omega)).2
 ·exact bD.2 h.u16.1
 ·exact bD.2 h.u16.2
 ·exact bD.2 (Int.natCast_nonneg len)
 ·exact bD.2 (Int.ofNat_le.2 h.b0)
 ·exact bD.2 (Int.natCast_nonneg bc)
 ·exact bD.2 (Int.ofNat_le.2 h.b1)
theorem a7m(hg0:∃t f,W.heap[0]? =some (.cells (Y7.map (Value.int .u32)).toArray t f))(hg1:∃t f,W.heap[1]? =some (.cells (dI.map (Value.int .u8)).toArray t f))(hg2:∃t f,W.heap[2]? =some (.cells (np.map (Value.int .u8)).toArray t f))(q:Nat):
 HD ⟨W,fun b=>b<W.heap.size,fun b=>b<W.heap.size⟩ (oA W cs a len cap a1 bc cap1) (HM q).H0 W:=by
 have key:∀id o r,E.ai (.h id) (HM q).H0=some (.row o r)→o=false∧r.holds (oA W cs a len cap a1 bc cap1) id W:=by
  intro id o r hr
  simp only[HM,zH,inH,ad6,gW,XS,g2H,bJ,E.ak]at hr
  split at hr
  ·rename_i e
   obtain rfl:=aO.h.inj e
   obtain⟨rfl,rfl⟩:=aY.row.inj (Option.some.inj hr)
   refine⟨rfl,vi (a:=a) (len:=len) (cap:=cap) rfl rfl (by simp[IE.den,v,oA]) ⟨rfl,rfl⟩ h.l0 (by decide) ?_⟩
   rcases h.c0 with h0|⟨x,rfl,hc⟩
   ·exact .inl h0
   ·refine .inr ⟨x,rfl,fun i hi j k hk=>?_⟩
    match j,hk with
    |0,hk=>
     obtain rfl:=Option.some.inj hk
     obtain⟨n,h1,h2,h3⟩:=hc i hi
     have e:i*[kb].length+0=i:=by simp
     rw[e,h1]
     have e2:(LE.var 20).den (oA W cs (some x) len cap a1 bc cap1) i 0=n:=by
      show iV (oz W (some x) (i*1+0))=n
      simp only[oz,Option.bind_some,Nat.mul_one,Nat.add_zero,h1,iV]
     rw[e2]
     simp only[kb,CK.v]
     rw[show IntKind.u8.wrap n=n by rw[IntKind.wrap_u8];omega]
  ·split at hr
   ·rename_i e
    obtain rfl:=aO.h.inj e
    obtain⟨rfl,rfl⟩:=aY.row.inj (Option.some.inj hr)
    refine⟨rfl,vi (a:=a1) (len:=bc) (cap:=cap1) rfl rfl (by simp[IE.den,v,oA]) ⟨rfl,rfl⟩ h.l1 (by decide) ?_⟩
    rcases h.c1 with h0|⟨x,rfl,hc⟩
    ·exact .inl h0
    ·refine .inr ⟨x,rfl,fun i hi j k hk=>?_⟩
     obtain⟨⟨p0,q0⟩,⟨p1,q1⟩,⟨p2,q2⟩,⟨p3,q3⟩,y,m,c,q4,_⟩:=hc i hi
     have hl:∀j,(LE.var 21).den (oA W cs a len cap (some x) bc cap1) i j=iV (W.cell? (x.add (i*5+j))):=fun j=>rfl
     match j,hk with
     |0,hk=>obtain rfl:=Option.some.inj hk;rw[hl];simp only[List.length_cons,List.length_nil,Nat.zero_add,Nat.reduceAdd,q0,iV,CK.v];cases p0<;>rfl
     |1,hk=>obtain rfl:=Option.some.inj hk;rw[hl];simp only[List.length_cons,List.length_nil,Nat.zero_add,Nat.reduceAdd,q1,iV,CK.v];cases p1<;>rfl
     |2,hk=>obtain rfl:=Option.some.inj hk;rw[hl];simp only[List.length_cons,List.length_nil,Nat.zero_add,Nat.reduceAdd,q2,iV,CK.v,ki]
     |3,hk=>obtain rfl:=Option.some.inj hk;rw[hl];simp only[List.length_cons,List.length_nil,Nat.zero_add,Nat.reduceAdd,q3,iV,CK.v,kq]
     |4,hk=>
      obtain rfl:=Option.some.inj hk
      show W.cell? (x.add (i*5+4))=some ((oz W (some x) (i*5+4)).getD undef)
      simp only[oz,Option.bind_some,q4,Option.getD_some]
   ·split at hr
    ·rename_i e
     obtain rfl:=aO.h.inj e
     obtain⟨rfl,rfl⟩:=aY.row.inj (Option.some.inj hr)
     refine⟨rfl,?_⟩
     simp only[am.holds]
     intro i hi
     have hi':i<bc:=by simpa [IE.den,v,oA] using hi
     rcases h.c1 with h0|⟨x,rfl,hc⟩
     ·omega
     ·obtain⟨_,_,_,_,y,m,c,q4,hs⟩:=hc i hi'
      have e1:(LE.var 22).den (oA W cs a len cap (some x) bc cap1) i 0=(m:Int):=by
       show ad8 (oz W (some x) (i*5+4))=_
       simp only[oz,Option.bind_some,q4,ad8]
      have e2:(oA W cs a len cap (some x) bc cap1).y 22 i=.slice y m c:=by
       show(oz W (some x) (i*5+4)).getD undef=_
       simp only[oz,Option.bind_some,q4,Option.getD_some]
      rw[e1,e2];exact hs
    ·split at hr
     ·rename_i e
      obtain rfl:=aO.h.inj e
      obtain⟨rfl,rfl⟩:=aY.row.inj (Option.some.inj hr)
      exact⟨rfl,rfl,hg0⟩
     ·split at hr
      ·rename_i e
       obtain rfl:=aO.h.inj e
       obtain⟨rfl,rfl⟩:=aY.row.inj (Option.some.inj hr)
       exact⟨rfl,rfl,hg1⟩
      ·split at hr
       ·rename_i e
        obtain rfl:=aO.h.inj e
        obtain⟨rfl,rfl⟩:=aY.row.inj (Option.some.inj hr)
        exact⟨rfl,rfl,hg2⟩
       ·cases hr
 refine⟨fun id o r hr=>(key id o r hr).2,fun id r hr=>?_,fun id r hr b hb=> .inl (am.BK (key id _ r hr).2 hb),fun i j r s hi hj=>?_,fun i j r s hij hi hj=>?_,?_⟩
 ·cases(key id _ r hr).1
 ·cases(key j _ s hj).1
 ·cases(key i _ r hi).1
 ·exact⟨rfl,rfl,rfl,Nat.le_refl _,fun b hb=>⟨hb,rfl⟩,fun _ hb=>hb⟩
end
end
section
def Pp{H:Type}(P:Program)(t:TypeId)(d:DataW H):Prop:=∀n,n∈d.weights P t→n≤reachBytes
theorem lz{H:Type}{P:Program}{e:TypeId}{d:DataW H}{n:Nat}:∀{l:List (DataW H)},d∈l→n∈d.weights P e→n∈DataW.weightsAll P e l
 |x::l,hd,hn=>by
  simp only[DataW.weightsAll,List.mem_append]
  cases hd with
  |head=>exact .inl hn
  |tail _ hd=>exact .inr (lz hd hn)
theorem eg{H:Type}{P:Program}{n:Nat}:∀{ts:List TypeId} {ds:List (DataW H)} (j:Nat) {t:TypeId} {d:DataW H},ts[j]? =some t→ds[j]? =some d→n∈d.weights P t→n∈DataW.weightsEach P ts ds
 |[],_,j,t,d,h,_,_=>by simp at h
 |_::_,[],j,t,d,_,h,_=>by simp at h
 |t0::ts,d0::ds,0,t,d,h1,h2,hn=>by
  obtain rfl:=Option.some.inj h1
  obtain rfl:=Option.some.inj h2
  simp only[DataW.weightsEach,List.mem_append];exact .inl hn
 |t0::ts,d0::ds,j+1,t,d,h1,h2,hn=>by
  simp only[DataW.weightsEach,List.mem_append]
  exact .inr (eg j (by simpa using h1) (by simpa using h2) hn)
theorem Pp.slice{H:Type}{P:Program}{t e:TypeId}{el sp:List (DataW H)}(ht:P.underlying t=some (.slice e))(h:Pp P t (.slice el sp)):(el.length+sp.length)*P.bytesOf e≤reachBytes∧∀d,d∈el→Pp P e d:=by
 unfold Pp at h
 simp only[DataW.weights,ht,List.mem_cons,List.mem_append]at h
 exact⟨h _ (.inl rfl),fun d hd n hn=>h n (.inr (.inl (lz hd hn)))⟩
theorem Pp.field{H:Type}{P:Program}{t:TypeId}{fs:Array Field}{parts:List (DataW H)}(ht:P.underlying t=some (.struct fs))(h:Pp P t (.agg parts)){j:Nat}{f:Field}{d:DataW H}(hf:fs[j]? =some f)(hd:parts[j]? =some d):Pp P f.type d:=by
 intro n hn
 refine h n ?_
 simp only[DataW.weights,ht]
 exact eg j (by rw[List.getElem?_map,Array.getElem?_toList,hf];rfl) hd hn
section
variable {H : Type} {enc : TypeId × Value → H} {P : Program} {w : World} {base : Nat} {spare : Nat → Bool} {held : Bool}
theorem gX{t e:TypeId}{fs:Array Field}{fuel:Nat}{cs:List Value}{x:DataW H×List MemPlace}(ht:P.underlying t=some (.slice e))(he:P.underlying e=some (.struct fs))
 (hone:oneCellFields P fs=true) (hC:P.cellsOf e=fs.size) (h:DataW.trod enc P w base spare held fuel t cs=some x):
 (cs=[.slice none 0 0]∧x.1=.nil)∨
 ∃(a:Addr) (len cap m:Nat) (D:Nat→DataW H) (sp:List (DataW H)),cs=[.slice (some a) len cap]∧len≤cap∧len≤m∧x.1=.slice ((List.range len).map D) sp∧
  ∀i,i<m→∃(ys:List (DataW H×List MemPlace)) (n:Nat),D i=.agg (ys.map (·.1))∧ys.length=fs.size∧
   ∀(j:Nat) (f:Field),fs[j]? =some f→∃(v:Value) (y:DataW H×List MemPlace),w.cell? (a.add (i*fs.size+j))=some v∧ys[j]? =some y∧DataW.trod enc P w base spare held n f.type [v]=some y:=by
 rcases open_slice ht h with⟨h0,h1⟩|⟨a,len,cap,m,n,D,Pl,hcs,hb,hl,hm,hmm,hx,hi⟩
 ·exact .inl ⟨h0,by rw[h1]⟩
 ·refine .inr ⟨a,len,cap,m,D,_,hcs,hl,by rw[hmm];split<;>omega,by rw[hx],fun i him=>?_⟩
  obtain⟨cs',hc,ht'⟩:=hi i him
  rw[hC]at hc
  obtain⟨ys,n',hn',hy,hlen,hyl,hf⟩:=DataW.trod_struct he ht'
  obtain⟨_,hcl,hat⟩:=World.cells?_some hc
  simp only[Prod.mk.injEq]at hy
  refine⟨ys,n',hy.1,hyl,fun j f hj=>?_⟩
  obtain⟨ho,hk⟩:=hone_of hone j f hj
  have hjl:j<fs.size:=(Array.getElem?_eq_some_iff.1 hj).1
  have hcell:=hat j hjl
  have hv:cs'[j]? =some (cs'[j]'(by omega)):=List.getElem?_eq_getElem (by omega)
  have h1:=hf j f hj
  rw[ho,hk]at h1
  have hone':(cs'.drop j).take 1=[cs'[j]'(by omega)]:=by
   rw[List.drop_eq_getElem_cons (by omega)]
   rfl
  rw[hone']at h1
  have hys:ys[j]? =some (ys[j]'(by omega)):=List.getElem?_eq_getElem (by omega)
  refine⟨_,_,?_,hys,h1.trans hys⟩
  rw[←Go.Deep.add_add,hcell,hv]
end
section
variable {H : Type} {enc : TypeId × Value → H} {W : World}
theorem CY{fuel:Nat}{v:Value}{y:DataW H×List MemPlace}(h:DataW.trod enc Tryz.prog W 0 (fun _=>true) true fuel 44 [v]=some y)(hw:Pp Tryz.prog 44 y.1):
 ∃a m c,v=.slice a m c∧nw W 0 [.i64,.i64,.i64] (m:Int) (.slice a m c):=by
 rcases gX Tryz.underlying44 Tryz.underlying139 (by kernel_rfl) (by kernel_rfl) h with⟨h0,_⟩|⟨a,len,cap,m,D,sp,hcs,hl,hlm,hx,hi⟩
 ·obtain rfl:=List.head_eq_of_cons_eq h0
  exact⟨none,0,0,rfl,.inl ⟨none,0,rfl,.inl rfl,rfl⟩⟩
 ·obtain rfl:=List.head_eq_of_cons_eq hcs
  refine⟨_,_,_,rfl,?_⟩
  rw[hx]at hw
  have hb:=(hw.slice Tryz.underlying44).1
  rw[List.length_map,List.length_range,show Tryz.prog.bytesOf 139=24 by kernel_rfl]at hb
  have hb2:len≤4611686018427387904:=by
   have:reachBytes=140737488351232:=rfl
   omega
  have hcell:∀i,i<len→∀j,j<3→∃n,W.cell? (a.add (i*3+j))=some (.int .i64 n):=by
   intro i hil j hj
   obtain⟨ys,n,_,_,hfl⟩:=hi i (by omega)
   have go : ∀ (j : Nat) (f : Field), (#[{ name := "Kind", type := 3, offset := 0, embedded := false, tag := "", pkgPath := "", byteOffset := 0 }, { name := "Car", type := 3, offset := 1, embedded := false, tag := "", pkgPath := "", byteOffset := 8 }, { name := "N", type := 3, offset := 2, embedded := false, tag := "", pkgPath := "", byteOffset := 16 }] : Array Field)[j]? = some f → f.type = 3 → ∃ n, W.cell? (a.add (i * 3 + j)) = some (.int .i64 n) := by
    intro j f hj hf3
    obtain⟨v0,y0,c0,_,r0⟩:=hfl j f hj
    rw[hf3]at r0
    obtain⟨a0,e0,_,_⟩:=DataW.trod_int Tryz.underlying3 r0
    obtain rfl:=List.head_eq_of_cons_eq e0
    exact⟨_,c0⟩
   match j,hj with
   |0,_=>exact go 0 _ rfl rfl
   |1,_=>exact go 1 _ rfl rfl
   |2,_=>exact go 2 _ rfl rfl
  rcases Nat.eq_zero_or_pos len with rfl|hpos
  ·exact .inl ⟨_,_,rfl,.inl rfl,rfl⟩
  ·obtain⟨n0,h0⟩:=hcell 0 hpos 0 (by omega)
   obtain⟨hsp,cs,e,z,hh⟩:=tI h0
   have hadd0:a.add (0*3+0)=a:=by simp[Addr.add]
   rw[hadd0]at hsp hh
   obtain⟨xb,xo,xs⟩:=a
   simp only at hsp hh
   subst hsp
   refine .inr ⟨xb,xo,len,cap,cs,e,z,rfl,.inl hpos,hh,hl,by show len≤4611686018427387904;exact hb2,fun i hi j k hk=>?_,.inl rfl,rfl⟩
   have hj:j<3:=(List.getElem?_eq_some_iff.1 hk).1
   have hki:k=.i64:=by
    match j,hj with
    |0,_=>exact(Option.some.inj hk).symm
    |1,_=>exact(Option.some.inj hk).symm
    |2,_=>exact(Option.some.inj hk).symm
   subst hki
   obtain⟨n,h3⟩:=hcell i hi j hj
   rw[E.ba]at h3
   simp only[World.cell?,hh,Option.isSome_none,Bool.false_eq_true,if_false]at h3
   exact⟨n,by rw[←h3];congr 1;simp only[List.length_cons,List.length_nil];omega⟩
theorem Y9{d:DataW H}{p:List MemPlace}{a:Option Addr}{len cap:Nat}(h:DataW.Trod enc Tryz.prog W 0 (fun _=>true) true 28 (.slice a len cap) d p)(hw:Pp Tryz.prog 28 d):
 len≤cap∧len≤4611686018427387904∧(len=0∨∃x,a=some x∧∀i,i<len→(∃p,W.cell? (x.add (i*5+0))=some (.bool p))∧(∃p,W.cell? (x.add (i*5+1))=some (.bool p))∧(∃n,W.cell? (x.add (i*5+2))=some (.int .i64 n))∧(∃n,W.cell? (x.add (i*5+3))=some (.int .u64 n))∧
 ∃y m c,W.cell? (x.add (i*5+4))=some (.slice y m c)∧nw W 0 [.i64,.i64,.i64] (m:Int) (.slice y m c)):=by
 obtain⟨fuel,hf⟩:=h
 rcases gX Tryz.underlying28 Tryz.underlying46 (by kernel_rfl) (by kernel_rfl) hf with⟨hcs,_⟩|⟨x,l,c,m,D,sp,hcs,hl,hlm,hx,hi⟩
 ·simp[Value.cells]at hcs
  obtain⟨rfl,rfl,rfl⟩:=hcs
  exact⟨Nat.le_refl _,by omega,.inl rfl⟩
 ·simp[Value.cells]at hcs
  obtain⟨rfl,rfl,rfl⟩:=hcs
  simp only at hx
  subst hx
  have hw2:=hw.slice Tryz.underlying28
  have hb:=hw2.1
  rw[List.length_map,List.length_range,show Tryz.prog.bytesOf 46=48 by kernel_rfl]at hb
  refine⟨hl,by have:reachBytes=140737488351232:=rfl;omega,.inr ⟨x,rfl,fun i hil=>?_⟩⟩
  obtain⟨ys,n,hD,hyl,hfl⟩:=hi i (by omega)
  obtain⟨v0,y0,c0,_,r0⟩:=hfl 0 _ rfl
  obtain⟨v1,y1,c1,_,r1⟩:=hfl 1 _ rfl
  obtain⟨v2,y2,c2,_,r2⟩:=hfl 2 _ rfl
  obtain⟨v3,y3,c3,_,r3⟩:=hfl 3 _ rfl
  obtain⟨v4,y4,c4,g4,r4⟩:=hfl 4 _ rfl
  obtain⟨q0,e0,_⟩:=DataW.trod_bool Tryz.underlying4 r0
  obtain⟨q1,e1,_⟩:=DataW.trod_bool Tryz.underlying4 r1
  obtain⟨q2,e2,_,_⟩:=DataW.trod_int Tryz.underlying3 r2
  obtain⟨q3,e3,_,_⟩:=DataW.trod_int Tryz.underlying43 r3
  obtain rfl:=List.head_eq_of_cons_eq e0
  obtain rfl:=List.head_eq_of_cons_eq e1
  obtain rfl:=List.head_eq_of_cons_eq e2
  obtain rfl:=List.head_eq_of_cons_eq e3
  have hwe:=hw2.2 (D i) (List.mem_map.2 ⟨i,List.mem_range.2 hil,rfl⟩)
  rw[hD]at hwe
  obtain⟨ya,ym,yc,rfl,hs⟩:=CY r4 (hwe.field Tryz.underlying46 (j:=4) rfl (by rw[List.getElem?_map,g4];rfl))
  exact⟨⟨_,c0⟩,⟨_,c1⟩,⟨_,c2⟩,⟨_,c3⟩,ya,ym,yc,c4,hs⟩
theorem HO{fuel:Nat}{v:Value}{y:DataW H×List MemPlace}(h:DataW.trod enc Tryz.prog W 0 (fun _=>true) true fuel 22 [v]=some y)(hw:Pp Tryz.prog 22 y.1):
 ∃a len cap,v=.slice a len cap∧len≤cap∧len≤4611686018427387904∧(len=0∨∃x,a=some x∧∀i,i<len→∃n,W.cell? (x.add i)=some (.int .u8 n)∧0≤n∧n≤255):=by
 rcases open_slice Tryz.underlying22 h with⟨h0,_⟩|⟨a,len,cap,m,n,D,Pl,hcs,hb,hl,hm,hmm,hx,hi⟩
 ·obtain rfl:=List.head_eq_of_cons_eq h0
  exact⟨none,0,0,rfl,Nat.le_refl _,by omega,.inl rfl⟩
 ·obtain rfl:=List.head_eq_of_cons_eq hcs
  rw[hx]at hw
  have hb:=(hw.slice Tryz.underlying22).1
  rw[List.length_map,List.length_range,show Tryz.prog.bytesOf 5=1 by kernel_rfl]at hb
  refine⟨_,_,_,rfl,hl,by have:reachBytes=140737488351232:=rfl;omega,.inr ⟨a,rfl,fun i hil=>?_⟩⟩
  obtain⟨cs',hc,ht'⟩:=hi i (by rw[hmm];simp;omega)
  rw[show Tryz.prog.cellsOf 5=1 by kernel_rfl,Nat.mul_one]at hc
  obtain⟨q,e,_,hwf⟩:=DataW.trod_int Tryz.underlying5 ht'
  obtain⟨_,hcl,hat⟩:=World.cells?_some hc
  have h0:=hat 0 (by omega)
  rw[e]at h0
  have h8:IntKind.u8.min=0∧IntKind.u8.max=255:=by decide
  simp[Lit.wf]at hwf
  refine⟨q,?_,by omega,by omega⟩
  have:(a.add i).add 0=a.add i:=by simp[Addr.add]
  rw[this]at h0
  exact h0
theorem tJ{α:Type}(l:List α)(i:Nat)(h:i<l.length):(l.drop i).take 1=[l[i]]:=by
 rw[List.drop_eq_getElem_cons h];rfl
theorem c7{P:Program}{t:TypeId}{k:IntKind}{l:List Value}{o n:Nat}{y:Option (DataW H×List MemPlace)}(ht:P.underlying t=some (.int k))(hc:P.cellsOf t=1)(ho:o<l.length)
 (hy:y.isSome=true) (h:DataW.trod enc P W 0 (fun _=>true) true n t ((l.drop o).take (P.cellsOf t))=y):∃a,l[o]? =some (.int k a)∧(Lit.int k a).wf=true:=by
 obtain⟨y,rfl⟩:=Option.isSome_iff_exists.1 hy
 rw[hc,tJ l o ho]at h
 obtain⟨a,e,_,hw⟩:=DataW.trod_int ht h
 refine⟨a,?_,hw⟩
 rw[List.getElem?_eq_getElem ho,List.head_eq_of_cons_eq e]
set_option maxRecDepth 100000 in
theorem Pq{r:Reach}{b0:Nat}{v:Value}{d:DataW H}{p:List MemPlace}(hv:Value.okWide Tryz.prog W r b0 27 v)(h:DataW.Trod enc Tryz.prog W 0 (fun _=>true) true 27 v d p)(hw:Pp Tryz.prog 27 d):
 ∃(cs:Array Value) (a:Option Addr) (len cap:Nat),v=.agg cs∧cs.size=19∧cs[0]? =some (.slice a len cap)∧(∀i,1≤i→i≤11→∃n,cs[i]? =some (.int .u8 n)∧0≤n∧n≤255)∧(∃n,cs[12]? =some (.int .u16 n)∧0≤n∧n≤65535)∧(∀i,13≤i→i≤18→∃n,cs[i]? =some (.int .i64 n))∧
  len≤cap∧len≤4611686018427387904∧(len=0∨∃x,a=some x∧∀i,i<len→∃n,W.cell? (x.add i)=some (.int .u8 n)∧0≤n∧n≤255):=by
 obtain⟨cs,rfl,hsz⟩:=okWide_struct Tryz.underlying27 hv
 rw[show Tryz.prog.cellsOf 27=19 by kernel_rfl]at hsz
 obtain⟨fuel,hf⟩:=h
 simp only[Value.cells]at hf
 obtain⟨xs,n,rfl,hx,hlen,hxl,hfl⟩:=DataW.trod_struct Tryz.underlying27 hf
 simp only[Prod.mk.injEq]at hx
 have hl:cs.toList.length=19:=by rw[Array.length_toList];exact hsz
 have hs:∀j:Nat,j<14→(xs[j]?).isSome=true:=fun j hj=>by
  rw[List.getElem?_eq_getElem (by rw[hxl];exact hj)];rfl
 have c1:Tryz.prog.cellsOf 22=1:=by kernel_rfl
 have c5:Tryz.prog.cellsOf 5=1:=by kernel_rfl
 have c23:Tryz.prog.cellsOf 23=1:=by kernel_rfl
 have c25:Tryz.prog.cellsOf 25=6:=by kernel_rfl
 have c3:Tryz.prog.cellsOf 3=1:=by kernel_rfl
 have h0:=hfl 0 _ rfl
 have h0:DataW.trod enc Tryz.prog W 0 (fun _=>true) true n 22 ((cs.toList.drop 0).take (Tryz.prog.cellsOf 22))=xs[0]? :=h0
 rw[c1,tJ _ _ (by omega)]at h0
 obtain⟨y0,hy0⟩:=Option.isSome_iff_exists.1 (hs 0 (by omega))
 rw[hy0]at h0
 rw[hx.1]at hw
 obtain⟨a,len,cap,e0,b1,b2,b3⟩:=HO h0 (hw.field Tryz.underlying27 (j:=0) rfl (by rw[List.getElem?_map,hy0];rfl))
 have h13:=hfl 13 _ rfl
 have h13:DataW.trod enc Tryz.prog W 0 (fun _=>true) true n 25 ((cs.toList.drop 13).take (Tryz.prog.cellsOf 25))=xs[13]? :=h13
 obtain⟨y13,hy13⟩:=Option.isSome_iff_exists.1 (hs 13 (by omega))
 rw[hy13,c25]at h13
 obtain⟨zs,m,_,_,_,hzl,hzf⟩:=DataW.trod_struct Tryz.underlying25 h13
 have hzs:∀j:Nat,j<6→(zs[j]?).isSome=true:=fun j hj=>by
  rw[List.getElem?_eq_getElem (by rw[hzl];exact hj)];rfl
 have hdl:((cs.toList.drop 13).take 6).length=6:=by rw[List.length_take,List.length_drop,hl];rfl
 have h8:IntKind.u8.min=0∧IntKind.u8.max=255:=by decide
 have h16:IntKind.u16.min=0∧IntKind.u16.max=65535:=by decide
 have u8:∀i:Nat,(∃q,cs.toList[i]? =some (.int .u8 q)∧(Lit.int .u8 q).wf=true)→∃q,cs[i]? =some (.int .u8 q)∧0≤q∧q≤255:=by
  rintro i ⟨q,e,hwf⟩
  simp[Lit.wf]at hwf
  exact⟨q,by rw[←Array.getElem?_toList];exact e,by omega,by omega⟩
 have i64:∀i:Nat,i<6→(∃q,((cs.toList.drop 13).take 6)[i]? =some (.int .i64 q)∧(Lit.int .i64 q).wf=true)→∃q,cs[13+i]? =some (.int .i64 q):=by
  rintro i hi ⟨q,e,_⟩
  rw[List.getElem?_take_of_lt hi,List.getElem?_drop]at e
  exact⟨q,by rw[←Array.getElem?_toList];exact e⟩
 refine⟨cs,a,len,cap,rfl,hsz,?_,fun i hi1 hi2=>u8 i ?_,?_,fun i hi1 hi2=>?_,b1,b2,b3⟩
 ·rw[←Array.getElem?_toList,List.getElem?_eq_getElem (by omega),e0]
 ·match i,hi1,hi2 with
  |1,_,_=>exact c7 Tryz.underlying5 c5 (by omega) (hs 1 (by omega)) (hfl 1 _ rfl)
  |2,_,_=>exact c7 Tryz.underlying5 c5 (by omega) (hs 2 (by omega)) (hfl 2 _ rfl)
  |3,_,_=>exact c7 Tryz.underlying5 c5 (by omega) (hs 3 (by omega)) (hfl 3 _ rfl)
  |4,_,_=>exact c7 Tryz.underlying5 c5 (by omega) (hs 4 (by omega)) (hfl 4 _ rfl)
  |5,_,_=>exact c7 Tryz.underlying5 c5 (by omega) (hs 5 (by omega)) (hfl 5 _ rfl)
  |6,_,_=>exact c7 Tryz.underlying5 c5 (by omega) (hs 6 (by omega)) (hfl 6 _ rfl)
  |7,_,_=>exact c7 Tryz.underlying5 c5 (by omega) (hs 7 (by omega)) (hfl 7 _ rfl)
  |8,_,_=>exact c7 Tryz.underlying5 c5 (by omega) (hs 8 (by omega)) (hfl 8 _ rfl)
  |9,_,_=>exact c7 Tryz.underlying5 c5 (by omega) (hs 9 (by omega)) (hfl 9 _ rfl)
  |10,_,_=>exact c7 Tryz.underlying5 c5 (by omega) (hs 10 (by omega)) (hfl 10 _ rfl)
  |11,_,_=>exact c7 Tryz.underlying5 c5 (by omega) (hs 11 (by omega)) (hfl 11 _ rfl)
 ·obtain⟨q,e,hwf⟩:=c7 (o:=12) (l:=cs.toList) Tryz.underlying23 c23 (by omega) (hs 12 (by omega)) (hfl 12 _ rfl)
  simp[Lit.wf]at hwf
  exact⟨q,by rw[←Array.getElem?_toList];exact e,by omega,by omega⟩
 ·obtain⟨q,rfl⟩:∃q,i=13+q:=⟨i-13,by omega⟩
  have hq:q<6:=by omega
  clear hi1 hi2
  match q,hq with
  |0,_=>exact i64 0 (by decide) (c7 Tryz.underlying3 c3 (by rw[hdl];decide) (hzs 0 (by decide)) (hzf 0 _ rfl))
  |1,_=>exact i64 1 (by decide) (c7 Tryz.underlying3 c3 (by rw[hdl];decide) (hzs 1 (by decide)) (hzf 1 _ rfl))
  |2,_=>exact i64 2 (by decide) (c7 Tryz.underlying3 c3 (by rw[hdl];decide) (hzs 2 (by decide)) (hzf 2 _ rfl))
  |3,_=>exact i64 3 (by decide) (c7 Tryz.underlying3 c3 (by rw[hdl];decide) (hzs 3 (by decide)) (hzf 3 _ rfl))
  |4,_=>exact i64 4 (by decide) (c7 Tryz.underlying3 c3 (by rw[hdl];decide) (hzs 4 (by decide)) (hzf 4 _ rfl))
  |5,_=>exact i64 5 (by decide) (c7 Tryz.underlying3 c3 (by rw[hdl];decide) (hzs 5 (by decide)) (hzf 5 _ rfl))
end
end
theorem own:ownKnob Tryz.prog.godebug=none:=by kernel_rfl
theorem Nu:laidOutB Tryz.prog=true:=by kernel_rfl
theorem Ya(q:Nat){W:World}{cs:Array Value}{a:Option Addr}{len cap:Nat}{a1:Option Addr}{bc cap1:Nat}(hsz:cs.size=19)(h0:cs[0]? =some (.slice a len cap))(h8:∀i,1≤i→i≤11→∃n,cs[i]? =some (.int .u8 n)∧0≤n∧n≤255)
 (h16:∃n,cs[12]? =some (.int .u16 n)∧0≤n∧n≤65535) (h64:∀i,13≤i→i≤18→∃n,cs[i]? =some (.int .i64 n)):
 ((HM q).args.map (SV.den (oA W cs a len cap a1 bc cap1))).toArray=#[.agg cs,.slice a1 bc cap1]:=by
 have key:∀i:Nat,i<19→cs.toList[i]? =(SV.dens (oA W cs a len cap a1 bc cap1) (.lst 20::((List.range 11).map fun i=>u8 (121+i))++[.int .u16 (.var 132),iv 133,iv 134,iv 135,iv 136,iv 137,iv 138]))[i]? :=by
  intro i hi
  rw[Array.getElem?_toList]
  have g8:∀j,1≤j→j≤11→cs[j]? =some (.int .u8 (iV cs[j]?)):=fun j h1 h2=>by obtain⟨n,e,_⟩:=h8 j h1 h2;rw[e];rfl
  have g64:∀j,13≤j→j≤18→cs[j]? =some (.int .i64 (iV cs[j]?)):=fun j h1 h2=>by obtain⟨n,e⟩:=h64 j h1 h2;rw[e];rfl
  rcases Nat.lt_or_ge i 12 with h|h
  ·match i,h with
   |0,_=>exact h0
   |1,_=>exact g8 1 (by decide) (by decide)
   |2,_=>exact g8 2 (by decide) (by decide)
   |3,_=>exact g8 3 (by decide) (by decide)
   |4,_=>exact g8 4 (by decide) (by decide)
   |5,_=>exact g8 5 (by decide) (by decide)
   |6,_=>exact g8 6 (by decide) (by decide)
   |7,_=>exact g8 7 (by decide) (by decide)
   |8,_=>exact g8 8 (by decide) (by decide)
   |9,_=>exact g8 9 (by decide) (by decide)
   |10,_=>exact g8 10 (by decide) (by decide)
   |11,_=>exact g8 11 (by decide) (by decide)
  ·obtain⟨j,rfl⟩:∃j,i=12+j:=⟨i-12,by omega⟩
   have hj:j<7:=by omega
   clear h hi
   match j,hj with
   |0,_=>
    obtain⟨n,e,_⟩:=h16
    show cs[12]? =some (.int .u16 (iV cs[12]?))
    rw[e];rfl
   |1,_=>exact g64 13 (by decide) (by decide)
   |2,_=>exact g64 14 (by decide) (by decide)
   |3,_=>exact g64 15 (by decide) (by decide)
   |4,_=>exact g64 16 (by decide) (by decide)
   |5,_=>exact g64 17 (by decide) (by decide)
   |6,_=>exact g64 18 (by decide) (by decide)
 have e:cs=(SV.dens (oA W cs a len cap a1 bc cap1) (.lst 20::((List.range 11).map fun i=>u8 (121+i))++[.int .u16 (.var 132),iv 133,iv 134,iv 135,iv 136,iv 137,iv 138])).toArray:=by
  apply Array.ext'
  apply List.ext_getElem?
  intro i
  rw[List.toList_toArray]
  rcases Nat.lt_or_ge i 19 with hi|hi
  ·exact key i hi
  ·rw[List.getElem?_eq_none (by rw[Array.length_toList,hsz];exact hi),List.getElem?_eq_none (by exact hi)]
 show #[Value.agg (SV.dens _ _).toArray,Value.slice a1 bc cap1]=_
 rw[←e]
theorem Yb{q:Nat}(hok:(HM q).ok Tryz.prog){W:World}{cs:Array Value}{a:Option Addr}{len cap:Nat}{a1:Option Addr}{bc cap1:Nat}(hargs:((HM q).args.map (SV.den (oA W cs a len cap a1 bc cap1))).toArray=#[.agg cs,.slice a1 bc cap1])
 (hA:HN W cs a len cap a1 bc cap1) (hL:laidMetH Tryz.prog vh W):
 Calls Tryz.prog q #[.agg cs,.slice a1 bc cap1] W fun e W'=>e=.returned (.bool true)∧Below W.heap.size W W':=by
 obtain⟨g0,g1,g2⟩:=a7k hL
 have:=hok ⟨W,fun b=>b<W.heap.size,fun b=>b<W.heap.size⟩ _ W (Y8 hA) (a7m hA g0 g1 g2 q)
 rw[hargs]at this
 refine Calls.mono this fun e W' ⟨σ',_,hf,_,he,hd⟩=>⟨?_,hd.fr.os,hd.fr.tape,hd.fr.output,hd.fr.size,fun k hk=>(hd.fr.keep k hk).2⟩
 have hb:(BE.var 201).den σ'=true:=(aa.1 hf).1
 rw[he]
 simp only[SV.den,hb]
theorem Yc(os:Os)(args:Array Value):laidMetH Tryz.prog vh ((World.doorLaid Tryz.prog 400 os).forCall (fun _ _=>0) ⟨#[],args,[]⟩).memory:=
 laidMetH_of_parts3 (fuel:=8) (laidMet_of_run' 8 (by kernel_rfl) (by kernel_rfl)) (by kernel_rfl) (by kernel_rfl)
end Go.Proofs.YteelgjcnkhmigaaGreatDoor.K
