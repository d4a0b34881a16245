/- Part 2 of the proofs of TopPhases, TopDoors and TopCutOff (over all inputs, no condition): the executor, and what the functions that they reach do. -/
import Derived.Test.YteelgjcnkhmigaaGreatDoorA1
import Derived.RangeFuncBound
import Derived.RangeFuncLeaves
import Derived.RangeFuncCalls
import Derived.RangeFuncIn
import Derived.RangeFuncRecord
import Derived.Test.YteelgjcnkhmigaaGreatDoorProg
import Derived.RangeFuncNested
import Derived.Shelf.Abstract
import Derived.Shelf.RegionOpen
import Derived.WalkKit
import Derived.OwnWalkIn
import Derived.TacticsInMore
import Derived.LoopNIn
import Derived.LoopIn
import Derived.IntWalk
import Derived.KernelRfl
import Derived.RangeFuncBox
set_option linter.unusedVariables false
set_option linter.unusedSimpArgs false
set_option linter.unusedSectionVars false
set_option maxHeartbeats 0
set_option maxRecDepth 100000
namespace Go.Proofs.YteelgjcnkhmigaaGreatDoor.E
open Go.RowKit
section
variable [cg]
def IE.eqs:List IE→List IE→Bool
 |[],[]=>true
 |a::l,b::m=>a.eq b&&IE.eqs l m
 |_,_=>false
theorem IE.tm:∀{l m:List IE},IE.eqs l m=true→l=m
 |[],[],_=>rfl
 |[],_::_,h=>by cases h
 |_::_,[],h=>by cases h
 |a::l,b::m,h=>by simp only[IE.eqs,Bool.and_eq_true]at h;rw[IE.b8 _ _ h.1,IE.tm h.2]
def LE.eqs:List LE→List LE→Bool
 |[],[]=>true
 |a::l,b::m=>a.eq b&&LE.eqs l m
 |_,_=>false
theorem LE.tm:∀{l m:List LE},LE.eqs l m=true→l=m
 |[],[],_=>rfl
 |[],_::_,h=>by cases h
 |_::_,[],h=>by cases h
 |a::l,b::m,h=>by simp only[LE.eqs,Bool.and_eq_true]at h;rw[LE.b8 _ _ h.1,LE.tm h.2]
def F.eqq:F→F→Bool
 |.be a,.be b=>a.eq b
 |.imp c f,.imp d g=>c.eq d&&f.eqq g
 |.rel r is ls,.rel q js ms=>Nat.beq r q&&(IE.eqs is js&&LE.eqs ls ms)
 |_,_=>false
theorem F.xd:∀{a b:F},a.eqq b=true→a=b
 |.be a,.be b,h=>by simp only[F.eqq]at h;rw[BE.b8 _ _ h]
 |.imp c f,.imp d g,h=>by simp only[F.eqq,Bool.and_eq_true]at h;rw[BE.b8 _ _ h.1,F.xd h.2]
 |.be _,.imp _ _,h=>by cases h
 |.be _,.rel _ _ _,h=>by cases h
 |.imp _ _,.be _,h=>by cases h
 |.imp _ _,.rel _ _ _,h=>by cases h
 |.rel _ _ _,.be _,h=>by cases h
 |.rel _ _ _,.imp _ _,h=>by cases h
 |.rel r is ls,.rel q js ms,h=>by simp only[F.eqq,Bool.and_eq_true]at h;rw[Nat.eq_of_beq_eq_true h.1,IE.tm h.2.1,LE.tm h.2.2]
def qt(l:List F)(x:F):Bool:=l.any fun y=>x.eqq y
theorem eP{l:List F}{x:F}(h:qt l x=true):x∈l:=by
 unfold qt at h
 rw[List.any_eq_true]at h
 obtain⟨y,hy,he⟩:=h
 rw[F.xd he];exact hy
def cov(want:dU)(v:List F×F):Bool:=qt v.1 v.2||want.any fun u=>(u.2.eqq v.2||u.2.eqq (.be (.lit false)))&&u.1.all (qt v.1)
def aa7(want vcs:dU):Bool:=vcs.all (cov want)
theorem Xn{want vcs:dU}(hw:ab want)(h:aa7 want vcs=true):ab vcs:=by
 intro v hv ρ hg
 have:=List.all_eq_true.1 h v hv
 unfold cov at this
 rw[Bool.or_eq_true]at this
 rcases this with h1|h1
 ·exact hg _ (eP h1)
 ·rw[List.any_eq_true]at h1
  obtain⟨u,hu,h2⟩:=h1
  simp only[Bool.and_eq_true,Bool.or_eq_true]at h2
  obtain⟨h2,h3⟩:=h2
  have hu2:u.2.holds ρ:=hw u hu ρ fun x hx=>hg x (eP (List.all_eq_true.1 h3 x hx))
  rcases h2 with h2|h2
  ·rw[←F.xd h2];exact hu2
  ·rw[F.xd h2]at hu2;cases hu2
section
variable {ρ : ap} {a b : IE}
theorem fC:(F.be (.cmp .lss a b)).holds ρ↔a.den ρ<b.den ρ:=by simp[F.holds,BE.den,bv]
theorem bD:(F.be (.cmp .leq a b)).holds ρ↔a.den ρ≤b.den ρ:=by simp[F.holds,BE.den,bv]
theorem aa8:(F.be (.cmp .gtr a b)).holds ρ↔b.den ρ<a.den ρ:=by simp[F.holds,BE.den,bv]
theorem aa9:(F.be (.cmp .geq a b)).holds ρ↔b.den ρ≤a.den ρ:=by simp[F.holds,BE.den,bv]
theorem tn:(F.be (.cmp .eql a b)).holds ρ↔a.den ρ=b.den ρ:=by simp[F.holds,BE.den,bv]
theorem aaa:(F.be (.cmp .neq a b)).holds ρ↔a.den ρ≠b.den ρ:=by simp[F.holds,BE.den,bv]
theorem aab{c:BE}:(F.be (.not c)).holds ρ↔¬(F.be c).holds ρ:=by simp[F.holds,BE.den]
theorem aac{c d e:BE}:(F.be (.ite c d e)).holds ρ↔(F.be c).holds ρ∧(F.be d).holds ρ∨¬(F.be c).holds ρ∧(F.be e).holds ρ:=by
 simp only[F.holds,BE.den];cases c.den ρ<;>simp
theorem Xo:(F.be (.lit true)).holds ρ↔True:=by simp[F.holds,BE.den]
theorem Nb:(F.be (.lit false)).holds ρ↔False:=by simp[F.holds,BE.den]
end
end
section
variable [cg]
structure bw where
 is:List (Nat×IE)
 bs:List (Nat×BE)
 ls:List (Nat×LE)
 rs:List (Nat×Option Nat)
 M:Nat
 n:Nat
def bX{α:Type}(v:Nat):List (Nat×α)→Option α
 |[]=>none
 |(u,x)::r=>bif Nat.beq u v then some x else bX v r
def bw.dv(s:bw)(v:Nat):Nat:=bif Nat.blt v s.M then v else s.n+(v-s.M)
def bw.i(s:bw)(v:Nat):IE:=
 match bX v s.is with
 |some e=>e
 |none=> .var (s.dv v)
def bw.l(s:bw)(v:Nat):LE:=
 match bX v s.ls with
 |some e=>e
 |none=> .var (s.dv v)
def bw.b(s:bw)(v:Nat):BE:=
 match bX v s.rs with
 |some (some id)=> .var id
 |some none=> .lit false
 |none=>match bX v s.bs with
  |some e=>e
  |none=> .var (s.dv v)
def bw.r(s:bw)(v:Nat):Nat:=
 match bX v s.rs with
 |some (some id)=>id
 |some none=>0
 |none=>s.dv v
def bw.x(s:bw)(v:Nat):SV:=
 match bX v s.rs with
 |some (some id)=> .lst id
 |some none=> .nils
 |none=> .lst (s.dv v)
def bw.isId(s:bw)(v:Nat):Bool:=
 match bX v s.rs with
 |some (some _)=>true
 |some none=>false
 |none=>match bX v s.bs with
  |some _=>false
  |none=>true
def bw.isNil(s:bw)(v:Nat):Bool:=
 match bX v s.rs with
 |some none=>true
 |_=>false
def bw.env(s:bw)(ρ:ap):ap:=
 {i:=fun v=>(s.i v).den ρ,b:=fun v=>(s.b v).den ρ,k:=fun v=>ρ.k (s.r v),f:=fun v=>ρ.f (s.r v),l:=fun v=>(s.l v).den ρ,x:=fun v=>(s.x v).den ρ,y:=fun v=>ρ.y (s.r v)}
theorem bw.a6r{s:bw}{v:Nat}(h:s.isId v=true):s.b v=.var (s.r v)∧s.x v=.lst (s.r v):=by
 unfold bw.isId at h
 unfold bw.b bw.x bw.r
 revert h
 generalize bX v s.rs=g
 generalize bX v s.bs=g2
 intro h
 cases g with
 |none=>cases g2 with
  |none=>exact⟨rfl,rfl⟩
  |some d=>cases h
 |some d=>cases d<;>first|(cases h;done)|exact⟨rfl,rfl⟩
mutual
def IE.on(s:bw):IE→IE
 |.lit n=> .lit n
 |.var v=>s.i v
 |.add a b=>cK (a.on s) (b.on s)
 |.sub a b=>qG (a.on s) (b.on s)
 |.mul a b=>MN (a.on s) (b.on s)
 |.wrap k a=>jC k (a.on s)
 |.quo a b=>MO (a.on s) (b.on s)
 |.rem a b=>MP (a.on s) (b.on s)
 |.bits o k a b=> .bits o k (a.on s) (b.on s)
 |.shl k a b=> .shl k (a.on s) (b.on s)
 |.shr k a b=> .shr k (a.on s) (b.on s)
 |.mx a b=>a5w (a.on s) (b.on s)
 |.mn a b=>a5x (a.on s) (b.on s)
 |.ite c a b=>iR (c.on s) (a.on s) (b.on s)
 |.nat a=>bf (a.on s)
 |.get l i c=>gA (l.on s) (i.on s) c
def BE.on(s:bw):BE→BE
 |.lit b=> .lit b
 |.var v=>s.b v
 |.not a=>dj (a.on s)
 |.cmp o a b=>eI o (a.on s) (b.on s)
 |.ite c a b=>kS (c.on s) (a.on s) (b.on s)
 |.eqb a b=>sA (a.on s) (b.on s)
def LE.on(s:bw):LE→LE
 |.var v=>s.l v
 |.upd l i c e=> .upd (l.on s) (i.on s) c (e.on s)
 |.ite c a b=>GX (c.on s) (a.on s) (b.on s)
end
mutual
theorem IE.aE(s:bw)(ρ:ap):∀e:IE,(e.on s).den ρ=e.den (s.env ρ)
 |.lit _=>rfl
 |.var _=>rfl
 |.add a b=>by simp only[IE.on,bU,IE.den,IE.aE s ρ a,IE.aE s ρ b]
 |.sub a b=>by simp only[IE.on,lA,IE.den,IE.aE s ρ a,IE.aE s ρ b]
 |.mul a b=>by simp only[IE.on,uH,IE.den,IE.aE s ρ a,IE.aE s ρ b]
 |.wrap k a=>by simp only[IE.on,gz,IE.den,IE.aE s ρ a]
 |.quo a b=>by simp only[IE.on,uI,IE.den,IE.aE s ρ a,IE.aE s ρ b]
 |.rem a b=>by simp only[IE.on,uJ,IE.den,IE.aE s ρ a,IE.aE s ρ b]
 |.bits o k a b=>by simp only[IE.on,IE.den,IE.aE s ρ a,IE.aE s ρ b]
 |.shl k a b=>by simp only[IE.on,IE.den,IE.aE s ρ a,IE.aE s ρ b]
 |.shr k a b=>by simp only[IE.on,IE.den,IE.aE s ρ a,IE.aE s ρ b]
 |.mx a b=>by simp only[IE.on,BM,IE.den,IE.aE s ρ a,IE.aE s ρ b]
 |.mn a b=>by simp only[IE.on,BN,IE.den,IE.aE s ρ a,IE.aE s ρ b]
 |.ite c a b=>by simp only[IE.on,fg,IE.den,BE.aE s ρ c,IE.aE s ρ a,IE.aE s ρ b]
 |.nat a=>by simp only[IE.on,aP,IE.den,IE.aE s ρ a]
 |.get l i c=>by simp only[IE.on,iX,IE.den,LE.aE s ρ l,IE.aE s ρ i]
theorem BE.aE(s:bw)(ρ:ap):∀e:BE,(e.on s).den ρ=e.den (s.env ρ)
 |.lit _=>rfl
 |.var _=>rfl
 |.not a=>by simp only[BE.on,cJ,BE.den,BE.aE s ρ a]
 |.cmp o a b=>by simp only[BE.on,dq,BE.den,IE.aE s ρ a,IE.aE s ρ b]
 |.ite c a b=>by simp only[BE.on,jD,BE.den,BE.aE s ρ c,BE.aE s ρ a,BE.aE s ρ b]
 |.eqb a b=>by simp only[BE.on,lB,BE.den,BE.aE s ρ a,BE.aE s ρ b]
theorem LE.aE(s:bw)(ρ:ap):∀e:LE,(e.on s).den ρ=e.den (s.env ρ)
 |.var _=>rfl
 |.upd l i c e=>by simp only[LE.on,LE.den,LE.aE s ρ l,IE.aE s ρ i,IE.aE s ρ e]
 |.ite c a b=>by simp only[LE.on,GY,LE.den,BE.aE s ρ c,LE.aE s ρ a,LE.aE s ρ b]
end
def PT.on(s:bw):PT→PT
 |.at id o=> .at (s.r id) o
 |.ax id o i z=> .ax (s.r id) o (i.on s) z
 |.fm f i o=> .fm (s.r f) (i.on s) o
 |.el id i z o=> .el (s.r id) (i.on s) z o
 |.fx f i o x m=> .fx (s.r f) (i.on s) o (x.on s) m
def PT.ids(s:bw):PT→Bool
 |.el id _ _ _=>s.isId id
 |_=>true
theorem PT.Nc{s:bw}(ρ:ap){p:PT}(h:p.ids s=true):(p.on s).addr ρ=p.addr (s.env ρ):=by
 cases p with
 |«at» id o=>rfl
 |ax id o i z=>simp only[PT.on,PT.addr,IE.aE];rfl
 |fm f i o=>simp only[PT.on,PT.addr,IE.aE];rfl
 |fx f i o x m=>simp only[PT.on,PT.addr,IE.aE];rfl
 |el id i z o=>
  have hi:=bw.a6r h
  simp only[PT.on,PT.addr,IE.aE]
  rfl
mutual
def SV.on(s:bw):SV→SV
 |.b e=> .b (e.on s)
 |.int k e=> .int k (e.on s)
 |.ptr p=> .ptr (p.on s)
 |.nilp=> .nilp
 |.sl p n c=> .sl (p.on s) (n.on s) (c.on s)
 |.nils=> .nils
 |.nilf=> .nilf
 |.fn f a c=> .fn f (SV.ons s a) (SV.ons s c)
 |.agg l=> .agg (SV.ons s l)
 |.tup l=> .tup (SV.ons s l)
 |.con v=> .con v
 |.opq v=> .opq (s.r v)
 |.map id=> .map (s.r id)
 |.lst id=>s.x id
 |.yv f i=> .yv (s.r f) (i.on s)
def SV.ons(s:bw):List SV→List SV
 |[]=>[]
 |x::r=>x.on s::SV.ons s r
end
mutual
def SV.ids(s:bw):SV→Bool
 |.ptr p=>p.ids s
 |.sl p _ _=>p.ids s
 |.fn _ a c=>SV.idss s a&&SV.idss s c
 |.agg l|.tup l=>SV.idss s l
 |.opq v=>s.isId v
 |_=>true
def SV.idss(s:bw):List SV→Bool
 |[]=>true
 |x::r=>x.ids s&&SV.idss s r
end
mutual
theorem SV.aE{s:bw}(ρ:ap):∀{x:SV},x.ids s=true→(x.on s).den ρ=x.den (s.env ρ)
 |.b e,_=>by simp only[SV.on,SV.den,BE.aE]
 |.int k e,_=>by simp only[SV.on,SV.den,IE.aE]
 |.ptr p,h=>by simp only[SV.ids]at h;simp only[SV.on,SV.den,PT.Nc ρ h]
 |.nilp,_=>rfl
 |.sl p n c,h=>by simp only[SV.ids]at h;simp only[SV.on,SV.den,PT.Nc ρ h,IE.aE]
 |.nils,_=>rfl
 |.nilf,_=>rfl
 |.fn f a c,h=>by simp only[SV.ids,Bool.and_eq_true]at h;simp only[SV.on,SV.den,SV.jV ρ h.1,SV.jV ρ h.2]
 |.agg l,h=>by simp only[SV.ids]at h;simp only[SV.on,SV.den,SV.jV ρ h]
 |.tup l,h=>by simp only[SV.ids]at h;simp only[SV.on,SV.den,SV.jV ρ h]
 |.con v,_=>rfl
 |.opq v,h=>by simp only[SV.ids]at h;simp only[SV.on,SV.den,bw.env,(bw.a6r h).2]
 |.map id,_=>rfl
 |.lst id,_=>rfl
 |.yv f i,_=>by simp only[SV.on,SV.den,IE.aE];rfl
theorem SV.jV{s:bw}(ρ:ap):∀{l:List SV},SV.idss s l=true→SV.dens ρ (SV.ons s l)=SV.dens (s.env ρ) l
 |[],_=>rfl
 |x::r,h=>by simp only[SV.idss,Bool.and_eq_true]at h;simp only[SV.ons,SV.dens,SV.aE ρ h.1,SV.jV ρ h.2]
end
def CK.on(s:bw):CK→CK
 |.ptr f=> .ptr (s.r f)
 |.val f=> .val (s.r f)
 |k=>k
theorem CK.ae9(s:bw)(ρ:ap)(c:CK)(i:Nat)(n:Int):(c.on s).v ρ i n=c.v (s.env ρ) i n:=by cases c<;>rfl
def CK.ons(s:bw):List CK→List CK
 |[]=>[]
 |k::r=>k.on s::CK.ons s r
theorem CK.rX(s:bw):∀l,CK.ons s l=l.map (CK.on s)
 |[]=>rfl
 |k::r=>by simp only[CK.ons,List.map_cons,CK.rX s r]
def am.on(s:bw):am→am
 |.cells e l=> .cells e (SV.ons s l)
 |.lst e ks n le=> .lst e (CK.ons s ks) (n.on s) (le.on s)
 |.fam e ks n le=> .fam e (CK.ons s ks) (n.on s) (le.on s)
 |.any e z=> .any e z
 |.mp l=> .mp l
 |.mi l=> .mi l
 |.glob e g k l=> .glob e g k l
 |.sls e ks n le=> .sls e ks (n.on s) (le.on s)
def am.ids(s:bw):am→Bool
 |.cells _ l=>SV.idss s l
 |_=>true
theorem am.Nd{s:bw}(ρ:ap){id:Nat}(hid:s.isId id=true){r:am}(b:Nat):(r.on s).owns ρ (s.r id) b↔r.owns (s.env ρ) id b:=by
 obtain⟨h2,h3⟩:=bw.a6r hid
 cases r<;>simp only[am.on,am.owns,bw.env,h2,h3,BE.den,IE.aE]
theorem am.fD{s:bw}{ρ:ap}{id:Nat}(hid:s.isId id=true){r:am}(hr:r.ids s=true){w:World}:(r.on s).holds ρ (s.r id) w↔r.holds (s.env ρ) id w:=by
 obtain⟨h2,h3⟩:=bw.a6r hid
 have eb:(s.env ρ).b id=ρ.b (s.r id):=by simp only[bw.env,h2,BE.den]
 have ex:(s.env ρ).x id=ρ.x (s.r id):=by simp only[bw.env,h3,SV.den]
 have ek:(s.env ρ).k id=ρ.k (s.r id):=rfl
 have ef:(s.env ρ).f id=ρ.f (s.r id):=rfl
 have ksl:∀ks:List CK,(CK.ons s ks).length=ks.length:=fun ks=>by rw[CK.rX,List.length_map]
 have ksg:∀(ks:List CK) (g:Nat→Nat→Value→Prop) (i:Nat) (c:Nat→Nat→Int),(∀(j:Nat) (k:CK),(CK.ons s ks)[j]? =some k→g i j (k.v ρ i (c i j)))↔∀(j:Nat) (k:CK),ks[j]? =some k→g i j (k.v (s.env ρ) i (c i j)):=by
  intro ks g i c
  constructor
  ·intro h j k hk
   have:=h j (k.on s) (by rw[CK.rX,List.getElem?_map,hk];rfl)
   rw[CK.ae9]at this;exact this
  ·intro h j k hk
   rw[CK.rX,List.getElem?_map]at hk
   cases hk':ks[j]? with
   |none=>rw[hk']at hk;cases hk
   |some k'=>
    rw[hk']at hk
    obtain rfl:=Option.some.inj hk
    rw[CK.ae9];exact h j k' hk'
 cases r with
 |cells e l=>
  simp only[am.ids]at hr
  simp only[am.on,am.holds,ek,←SV.b9,SV.jV ρ hr]
 |lst e ks n le=>
  simp only[am.on,am.holds,eb,ef,ex,ek,IE.aE,LE.aE,ksl]
  constructor
  ·rintro⟨a,b⟩
   refine⟨a,fun hb=>?_⟩
   obtain⟨cs,c,g1,g2,g3,g4,g5⟩:=b hb
   exact⟨cs,c,g1,g2,g3,g4,fun i hi=>(ksg ks (fun i j v=>cs[(ρ.f (s.r id) 0)+i*ks.length+j]? =some v) i (le.den (s.env ρ))).1 (g5 i hi)⟩
  ·rintro⟨a,b⟩
   refine⟨a,fun hb=>?_⟩
   obtain⟨cs,c,g1,g2,g3,g4,g5⟩:=b hb
   exact⟨cs,c,g1,g2,g3,g4,fun i hi=>(ksg ks (fun i j v=>cs[(ρ.f (s.r id) 0)+i*ks.length+j]? =some v) i (le.den (s.env ρ))).2 (g5 i hi)⟩
 |fam e ks n le=>
  simp only[am.on,am.holds,ef,IE.aE,LE.aE,ksl]
  constructor
  ·rintro⟨a,b⟩
   refine⟨fun i hi=>?_,b⟩
   obtain⟨cs,g1,g2,g3⟩:=a i hi
   exact⟨cs,g1,g2,(ksg ks (fun i j v=>cs[j]? =some v) i (le.den (s.env ρ))).1 g3⟩
  ·rintro⟨a,b⟩
   refine⟨fun i hi=>?_,b⟩
   obtain⟨cs,g1,g2,g3⟩:=a i hi
   exact⟨cs,g1,g2,(ksg ks (fun i j v=>cs[j]? =some v) i (le.den (s.env ρ))).2 g3⟩
 |any e z=>simp only[am.on,am.holds,ek]
 |mp l=>cases l<;>simp only[am.on,am.holds,ek]
 |mi l=>simp only[am.on,am.holds,ek]
 |glob e g k l=>simp only[am.on,am.holds,ek]
 |sls e ks n le=>simp only[am.on,am.holds,IE.aE,LE.aE];rfl
theorem am.P7{s:bw}{ρ:ap}{id:Nat}(hid:s.isNil id=true){e:TypeId}{ks:List CK}{n:IE}{le:LE}(hn:n.on s=.lit 0){w:World}:(am.lst e ks n le).holds (s.env ρ) id w∧∀b,¬(am.lst e ks n le).owns (s.env ρ) id b:=by
 unfold bw.isNil at hid
 have hb:s.b id=.lit false∧s.x id=.nils:=by
  unfold bw.b bw.x
  revert hid
  generalize bX id s.rs=g
  intro hid
  cases g with
  |none=>cases hid
  |some d=>cases d<;>first|(cases hid;done)|exact⟨rfl,rfl⟩
 have h0:n.den (s.env ρ)=0:=by rw[←IE.aE,hn];rfl
 have eb:(s.env ρ).b id=false:=by simp only[bw.env,hb.1,BE.den]
 have ex:(s.env ρ).x id=.slice none 0 0:=by simp only[bw.env,hb.2,SV.den]
 refine⟨?_,fun b hb'=>?_⟩
 ·simp only[am.holds,eb,ex,h0]
  exact⟨fun _=>⟨rfl,.inl trivial⟩,fun h=>by cases h⟩
 ·simp only[am.owns,eb]at hb'
  cases hb'.1
def F.on(s:bw):F→F
 |.be b=> .be (b.on s)
 |.rel r is ls=> .rel r (is.map (IE.on s)) (ls.map (LE.on s))
 |.imp c f=> .imp (c.on s) (f.on s)
theorem F.fD(s:bw)(ρ:ap):∀f:F,(f.on s).holds ρ↔f.holds (s.env ρ)
 |.be b=>by simp only[F.on,F.holds,BE.aE]
 |.rel r is ls=>by
  simp only[F.on,F.holds,List.map_map]
  rw[show(IE.den ρ∘IE.on s)=IE.den (s.env ρ)from funext fun e=>IE.aE s ρ e,show(LE.den ρ∘LE.on s)=LE.den (s.env ρ)from funext fun e=>LE.aE s ρ e]
 |.imp c f=>by simp only[F.on,F.holds,BE.aE,F.fD s ρ f]
theorem xe(s:bw)(ρ:ap)(l:List F):ar ρ (l.map (F.on s))↔ar (s.env ρ) l:=by
 constructor
 ·exact fun h f hf=>(F.fD s ρ f).1 (h _ (List.mem_map.2 ⟨f,hf,rfl⟩))
 ·intro h f hf
  obtain⟨g,hg,rfl⟩:=List.mem_map.1 hf
  exact(F.fD s ρ g).2 (h g hg)
def r0:c8:=⟨0,0,0⟩
theorem xf(ρ:ap):r0.env ρ=ρ:=by
 have:∀u,r0.back u=u:=fun u=>by unfold c8.back r0;rw[if_neg (by simp)]
 unfold c8.env
 simp only[this]
theorem am.va{a b:am}(h:a.eqr r0 b=true)(ρ:ap)(id:Nat)(w:World)(hh:a.holds ρ id w):b.holds ρ id w:=by
 have:=am.gg (r:=r0) (ρ:=ρ) h (v:=id) (u:=id) (by simp[c8.v,r0,Nat.beq_refl]) hh
 rw[xf]at this;exact this
theorem am.Xp{a b:am}(h:a.eqr r0 b=true)(ρ:ap)(id:Nat)(c:Nat):b.owns ρ id c↔a.owns ρ id c:=by
 have:=am.eM (r:=r0) (ρ:=ρ) h (v:=id) (u:=id) (by simp[c8.v,r0,Nat.beq_refl]) c
 rw[xf]at this;exact this
theorem SV.Xq{l m:List SV}(h:SV.eqrs r0 l m=true)(ρ:ap):SV.dens ρ m=SV.dens ρ l:=by
 have:=SV.fB (r:=r0) (ρ:=ρ) l m h
 rw[xf]at this;exact this
theorem SV.a6s{l m:SV}(h:l.eqr r0 m=true)(ρ:ap):m.den ρ=l.den ρ:=by
 have:=SV.aD (r:=r0) (ρ:=ρ) l m h
 rw[xf]at this;exact this
theorem ap.ext'{a b:ap}(h1:∀v,a.i v=b.i v)(h2:∀v,a.b v=b.b v)(h3:∀v,a.k v=b.k v)(h4:∀v,a.f v=b.f v)(h5:∀v,a.l v=b.l v)(h6:∀v,a.x v=b.x v)(h7:∀v,a.y v=b.y v):a=b:=by
 cases a;cases b
 simp only[ap.mk.injEq]
 exact⟨funext h1,funext h2,funext h3,funext h4,funext h5,funext h6,funext h7⟩
def bw.okB(s:bw):Bool:=
 Nat.ble s.M s.n&&((s.is.all fun x=>Nat.blt x.1 s.M&&x.2.avo s.n ay)&&((s.bs.all fun x=>Nat.blt x.1 s.M&&x.2.avo s.n ay)&&((s.ls.all fun x=>Nat.blt x.1 s.M&&x.2.avo s.n ay)&&
  (Nat.blt 0 s.n&&s.rs.all fun x=>Nat.blt x.1 s.M&&(match x.2 with|some id=>Nat.blt id s.n|none=>true)))))
theorem gj{α:Type}{v:Nat}{d:α}:∀{l:List (Nat×α)},bX v l=some d→(v,d)∈l
 |[],h=>by cases h
 |(u,x)::r,h=>by
  simp only[bX]at h
  cases hu:Nat.beq u v
  ·rw[hu]at h;exact .tail _ (gj h)
  ·rw[hu]at h;obtain rfl:=Option.some.inj h;rw[Nat.eq_of_beq_eq_true hu];exact .head _
def bw.out(s:bw)(N:Nat)(σ' ρ:ap):ap:=
 {i:=fun v=>if s.n≤v∧v<s.n+(N-s.M)then σ'.i (s.M+(v-s.n))else ρ.i v,b:=fun v=>if s.n≤v∧v<s.n+(N-s.M)then σ'.b (s.M+(v-s.n))else ρ.b v,k:=fun v=>if s.n≤v∧v<s.n+(N-s.M)then σ'.k (s.M+(v-s.n))else ρ.k v,f:=fun v=>if s.n≤v∧v<s.n+(N-s.M)then σ'.f (s.M+(v-s.n))else ρ.f v,l:=fun v=>if s.n≤v∧v<s.n+(N-s.M)then σ'.l (s.M+(v-s.n))else ρ.l v,x:=fun v=>if s.n≤v∧v<s.n+(N-s.M)then σ'.x (s.M+(v-s.n))else ρ.x v,y:=fun v=>if s.n≤v∧v<s.n+(N-s.M)then σ'.y (s.M+(v-s.n))else ρ.y v}
theorem bw.Nf(s:bw)(N:Nat)(σ' ρ:ap):b7 s.n (s.n+(N-s.M)) ρ (s.out N σ' ρ):=by
 constructor<;>intro v hv<;>simp only[bw.out]<;>rw[if_neg (by omega)]
structure bw.OK (s:bw):Prop where
 le:s.M≤s.n
 pos:0<s.n
 i:∀v e,bX v s.is=some e→v<s.M∧e.avo s.n ay=true
 b:∀v e,bX v s.bs=some e→v<s.M∧e.avo s.n ay=true
 l:∀v e,bX v s.ls=some e→v<s.M∧e.avo s.n ay=true
 r:∀v e,bX v s.rs=some e→v<s.M∧∀id,e=some id→id<s.n
theorem bw.ok{s:bw}(hs:s.okB=true):s.OK:=by
 unfold bw.okB at hs
 simp only[Bool.and_eq_true]at hs
 obtain⟨h1,h2,h3,h4,h5,h6⟩:=hs
 refine⟨Nat.le_of_ble_eq_true h1,Nat.le_of_ble_eq_true h5,fun v e h=>?_,fun v e h=>?_,fun v e h=>?_,fun v e h=>?_⟩
 ·have:=List.all_eq_true.1 h2 _ (gj h);rw[Bool.and_eq_true]at this;exact⟨Nat.le_of_ble_eq_true this.1,this.2⟩
 ·have:=List.all_eq_true.1 h3 _ (gj h);rw[Bool.and_eq_true]at this;exact⟨Nat.le_of_ble_eq_true this.1,this.2⟩
 ·have:=List.all_eq_true.1 h4 _ (gj h);rw[Bool.and_eq_true]at this;exact⟨Nat.le_of_ble_eq_true this.1,this.2⟩
 ·have:=List.all_eq_true.1 h6 _ (gj h)
  rw[Bool.and_eq_true]at this
  refine⟨Nat.le_of_ble_eq_true this.1,fun id hid=>?_⟩
  subst hid
  exact Nat.le_of_ble_eq_true this.2
theorem bw.li{s:bw}(hs:s.OK)(v:Nat):(v<s.M∧s.dv v=v∧v<s.n)∨(s.M≤v∧s.dv v=s.n+(v-s.M)∧bX v s.is=none∧bX v s.bs=none∧bX v s.ls=none∧bX v s.rs=none):=by
 have hMn:=hs.le
 unfold bw.dv
 rcases Nat.lt_or_ge v s.M with hv|hv
 ·rw[show Nat.blt v s.M=true from Nat.ble_eq_true_of_le hv];exact .inl ⟨hv,rfl,by omega⟩
 ·have:Nat.blt v s.M=false:=by
   cases hh:Nat.blt v s.M
   ·rfl
   ·have:v+1≤s.M:=Nat.le_of_ble_eq_true hh;omega
  rw[this]
  refine .inr ⟨hv,rfl,?_,?_,?_,?_⟩
  ·cases hg:bX v s.is with
   |none=>rfl
   |some d=>have:=(hs.i v d hg).1;omega
  ·cases hg:bX v s.bs with
   |none=>rfl
   |some d=>have:=(hs.b v d hg).1;omega
  ·cases hg:bX v s.ls with
   |none=>rfl
   |some d=>have:=(hs.l v d hg).1;omega
  ·cases hg:bX v s.rs with
   |none=>rfl
   |some d=>have:=(hs.r v d hg).1;omega
section
variable {s : bw} (hs : s.OK) {N : Nat} (hN : s.n + (N - s.M) ≤ ay) {σ' ρ : ap}
include hs hN
theorem bw.Hr{α:Type}(g:Nat→α)(g':Nat→α)(v:Nat)(h:v<s.M∨N≤v→g' v=g (s.r v)):
 (fun u=>if s.n≤u∧u<s.n+(N-s.M)then g' (s.M+(u-s.n))else g u) (s.r v)=g' v:=by
 show(if s.n≤s.r v∧s.r v<s.n+(N-s.M)then g' (s.M+(s.r v-s.n))else g (s.r v))=g' v
 have hMn:=hs.le
 rcases s.li hs v with⟨h1,h2,h3⟩|⟨h1,h2,_,_,_,h3⟩
 ·have hlt:s.r v<s.n:=by
   unfold bw.r
   cases hg:bX v s.rs with
   |none=>show s.dv v<s.n;rw[h2];exact h3
   |some d=>
    cases d with
    |some id=>exact(hs.r v _ hg).2 id rfl
    |none=>exact hs.pos
  rw[if_neg (by omega)];exact(h (.inl h1)).symm
 ·have hr:s.r v=s.n+(v-s.M):=by unfold bw.r;rw[h3];exact h2
  by_cases hvN:v<N
  ·rw[hr,if_pos (by omega)];congr 1;omega
  ·rw[if_neg (by omega)];exact(h (.inr (by omega))).symm
theorem bw.a6t(h:b7 s.M N (s.env ρ) σ'):s.env (s.out N σ' ρ)=σ':=by
 have hMn:=hs.le
 have hag:=s.Nf N σ' ρ
 have hag':b7 s.n ay ρ (s.out N σ' ρ):=hag.mono (Nat.le_refl _) hN
 have nm:∀u,u<s.n→u<s.n∨s.n+(N-s.M)≤u:=fun u hu=> .inl hu
 refine ap.ext' (fun v=>?_) (fun v=>?_) (fun v=>s.Hr hs hN ρ.k σ'.k v fun hv=>h.k v hv) (fun v=>s.Hr hs hN ρ.f σ'.f v fun hv=>h.f v hv) (fun v=>?_) (fun v=>?_) (fun v=>s.Hr hs hN ρ.y σ'.y v fun hv=>h.y v hv)
 ·
  show(s.i v).den (s.out N σ' ρ)=σ'.i v
  have ho:v<s.M∨N≤v→σ'.i v=(s.i v).den ρ:=fun hv=>h.i v hv
  rcases s.li hs v with⟨h1,h2,h3⟩|⟨h1,h2,h3,_⟩
  ·rw[ho (.inl h1)]
   cases hg:bX v s.is with
   |none=>simp only[bw.i,hg,IE.den,h2];exact hag.i v (nm v h3)
   |some e=>simp only[bw.i,hg];exact IE.ag hag' e (hs.i v e hg).2
  ·have hi:s.i v=.var (s.n+(v-s.M)):=by unfold bw.i;rw[h3];exact congrArg _ h2
   by_cases hvN:v<N
   ·rw[hi];simp only[IE.den,bw.out];rw[if_pos (by omega)];congr 1;omega
   ·rw[ho (.inr (by omega)),hi];exact hag.i _ (.inr (by omega))
 ·show(s.b v).den (s.out N σ' ρ)=σ'.b v
  have ho:v<s.M∨N≤v→σ'.b v=(s.b v).den ρ:=fun hv=>h.b v hv
  rcases s.li hs v with⟨h1,h2,h3⟩|⟨h1,h2,_,h4,_,h3⟩
  ·rw[ho (.inl h1)]
   cases hr:bX v s.rs with
   |some d=>
    cases d with
    |some id=>simp only[bw.b,hr,BE.den];exact hag.b id (nm id ((hs.r v _ hr).2 id rfl))
    |none=>simp only[bw.b,hr,BE.den]
   |none=>
    cases hg:bX v s.bs with
    |none=>simp only[bw.b,hr,hg,BE.den,h2];exact hag.b v (nm v h3)
    |some e=>simp only[bw.b,hr,hg];exact BE.ag hag' e (hs.b v e hg).2
  ·have hi:s.b v=.var (s.n+(v-s.M)):=by unfold bw.b;rw[h3,h4];exact congrArg _ h2
   by_cases hvN:v<N
   ·rw[hi];simp only[BE.den,bw.out];rw[if_pos (by omega)];congr 1;omega
   ·rw[ho (.inr (by omega)),hi];exact hag.b _ (.inr (by omega))
 ·show(s.l v).den (s.out N σ' ρ)=σ'.l v
  have ho:v<s.M∨N≤v→σ'.l v=(s.l v).den ρ:=fun hv=>h.l v hv
  rcases s.li hs v with⟨h1,h2,h3⟩|⟨h1,h2,_,_,h3,_⟩
  ·rw[ho (.inl h1)]
   cases hg:bX v s.ls with
   |none=>simp only[bw.l,hg,LE.den,h2];exact hag.l v (nm v h3)
   |some e=>simp only[bw.l,hg];exact LE.ag hag' e (hs.l v e hg).2
  ·have hi:s.l v=.var (s.n+(v-s.M)):=by unfold bw.l;rw[h3];exact congrArg _ h2
   by_cases hvN:v<N
   ·rw[hi];simp only[LE.den,bw.out];rw[if_pos (by omega)];congr 1;omega
   ·rw[ho (.inr (by omega)),hi];exact hag.l _ (.inr (by omega))
 ·show(s.x v).den (s.out N σ' ρ)=σ'.x v
  have ho:v<s.M∨N≤v→σ'.x v=(s.x v).den ρ:=fun hv=>h.x v hv
  rcases s.li hs v with⟨h1,h2,h3⟩|⟨h1,h2,_,_,_,h3⟩
  ·rw[ho (.inl h1)]
   cases hr:bX v s.rs with
   |some d=>
    cases d with
    |some id=>simp only[bw.x,hr,SV.den];exact hag.x id (nm id ((hs.r v _ hr).2 id rfl))
    |none=>simp only[bw.x,hr,SV.den]
   |none=>simp only[bw.x,hr,SV.den,h2];exact hag.x v (nm v h3)
  ·have hi:s.x v=.lst (s.n+(v-s.M)):=by unfold bw.x;rw[h3];exact congrArg _ h2
   by_cases hvN:v<N
   ·rw[hi];simp only[SV.den,bw.out];rw[if_pos (by omega)];congr 1;omega
   ·rw[ho (.inr (by omega)),hi];exact hag.x _ (.inr (by omega))
end
end
section
variable [cg]
structure Bs where
 is:List (Nat×IE)
 bs:List (Nat×BE)
 ls:List (Nat×LE)
 rs:List (Nat×Option Nat)
def Bs.nil:Bs:=⟨[],[],[],[]⟩
def vb{α:Type}(lo hi v:Nat)(d:α)(l:List (Nat×α)):List (Nat×α):=
 bif Nat.ble lo v&&Nat.blt v hi then(match bX v l with|none=>(v,d)::l|some _=>l)else l
section
variable (lo hi : Nat)
def mI(p a:IE)(bs:Bs):Bs:=match p with|.var v=>{bs with is:=vb lo hi v a bs.is}|_=>bs
def mB(p a:BE)(bs:Bs):Bs:=match p with|.var v=>{bs with bs:=vb lo hi v a bs.bs}|_=>bs
def mL(p a:LE)(bs:Bs):Bs:=match p with|.var v=>{bs with ls:=vb lo hi v a bs.ls}|_=>bs
def Xr(v u:Nat)(bs:Bs):Bs:={bs with rs:=vb lo hi v (some u) bs.rs}
def mPT(p a:PT)(bs:Bs):Bs:=
 match p,a with
 |.at id _,.at u _=>Xr lo hi id u bs
 |.ax id _ i _,.ax u _ j _=>mI lo hi i j (Xr lo hi id u bs)
 |.fm id i _,.fm u j _=>mI lo hi i j (Xr lo hi id u bs)
 |.el id i _ _,.el u j _ _=>mI lo hi i j (Xr lo hi id u bs)
 |.fx id i _ x _,.fx u j _ y _=>mI lo hi i j (mI lo hi x y (Xr lo hi id u bs))
 |_,_=>bs
mutual
def mSV(p a:SV)(bs:Bs):Bs:=
 match p,a with
 |.b e,.b f=>mB lo hi e f bs
 |.int _ e,.int _ f=>mI lo hi e f bs
 |.ptr p,.ptr q=>mPT lo hi p q bs
 |.sl p n c,.sl q m d=>mI lo hi n m (mI lo hi c d (mPT lo hi p q bs))
 |.fn _ a c,.fn _ b d=>CE c d (CE a b bs)
 |.agg l,.agg m=>CE l m bs
 |.tup l,.tup m=>CE l m bs
 |.opq v,.opq u=>Xr lo hi v u bs
 |.map v,.map u=>Xr lo hi v u bs
 |.lst v,.lst u=>Xr lo hi v u bs
 |.lst v,.nils=>{bs with rs:=vb lo hi v none bs.rs}
 |.yv v i,.yv u j=>mI lo hi i j (Xr lo hi v u bs)
 |_,_=>bs
def CE(p a:List SV)(bs:Bs):Bs:=
 match p,a with
 |x::l,y::m=>CE l m (mSV x y bs)
 |_,_=>bs
end
def Xs:List CK→List CK→Bs→Bs
 |.ptr a::l,.ptr b::m,bs=>Xs l m (Xr lo hi a b bs)
 |.val a::l,.val b::m,bs=>Xs l m (Xr lo hi a b bs)
 |_::l,_::m,bs=>Xs l m bs
 |_,_,bs=>bs
def aea(p a:am)(bs:Bs):Bs:=
 match p,a with
 |.cells _ l,.cells _ m=>CE lo hi l m bs
 |.lst _ ks n le,.lst _ js m me=>mL lo hi le me (mI lo hi n m (Xs lo hi ks js bs))
 |.fam _ ks n le,.fam _ js m me=>mL lo hi le me (mI lo hi n m (Xs lo hi ks js bs))
 |.sls _ _ n le,.sls _ _ m me=>mL lo hi le me (mI lo hi n m bs)
 |_,_=>bs
def Xt:List CK→Bs→Bs
 |.val a::l,bs=>Xt l {bs with rs:=vb lo hi a none bs.rs}
 |_::l,bs=>Xt l bs
 |[],bs=>bs
def aeb(p:am)(bs:Bs):Bs:=
 match p with
 |.lst _ ks n _=>mI lo hi n (.lit 0) (Xt lo hi ks bs)
 |_=>bs
def Xu(A:af):af→Bs→Bs
 |[],bs=>bs
 |(.h id,.row _ r)::l,bs=>
  Xu A l (match bX id bs.rs with
   |some none=>aeb lo hi r bs
   |some (some u)=>(match ai (.h u) A with|some (.row _ r')=>aea lo hi r r' bs|_=>bs)
   |none=>(match ai (.h id) A with|some (.row _ r')=>aea lo hi r r' bs|_=>bs))
 |_::l,bs=>Xu A l bs
end
def xg:IE→Bool
 |.lit (.ofNat 0)=>true
 |_=>false
theorem vd{e:IE}(h:xg e=true):e=.lit 0:=by
 unfold xg at h;split at h
 ·rfl
 ·cases h
def abv(s:bw)(A:af)(id:Nat)(o:Bool)(r:am):Bool:=
 bif s.isNil id then(match r with|.lst _ _ n _=>xg (n.on s)|.sls _ _ n _=>xg (n.on s)|_=>false)
 else s.isId id&&(r.ids s&&match ai (.h (s.r id)) A with
  |some (.row o' r')=>(!o||o')&&(r'.eqr r0 (r.on s)&&(r.on s).eqr r0 r')
  |_=>false)
def a6u(s:bw)(pat A:af):af→Bool
 |[]=>true
 |(.h id,_)::l=>(match ai (.h id) pat with
    |some (.row o r)=>abv s A id o r
    |_=>true)&&a6u s pat A l
 |(.r _,_)::l=>false
def tp(pat:af)(id:Nat):Bool:=
 match ai (.h id) pat with
 |some (.row true _)=>true
 |_=>false
def Hs(s:bw)(pat:af)(id:Nat):af→Bool
 |[]=>true
 |(.h j,_)::l=>(Nat.beq id j||(!(tp pat j||tp pat id)||(s.isNil id||(s.isNil j||!(Nat.beq (s.r id) (s.r j))))))&&Hs s pat id l
 |_::l=>Hs s pat id l
def P8(s:bw)(pat:af):af→Bool
 |[]=>true
 |(.h i,_)::l=>Hs s pat i pat&&P8 s pat l
 |_::l=>P8 s pat l
def ol(s:bw)(pat A:af):Bool:=a6u s pat A pat&&P8 s pat pat
theorem jd{k:aO}{e:aY}:∀{L:af},ai k L=some e→(k,e)∈L
 |[],h=>by cases h
 |(j,f)::l,h=>by
  rw[ak]at h
  by_cases hj:j=k
  ·rw[if_pos hj]at h;obtain rfl:=Option.some.inj h;subst hj;exact .head _
  ·rw[if_neg hj]at h;exact .tail _ (jd h)
theorem CF{s:bw}{pat A:af}{id:Nat}{o:Bool}{r:am}(hl:ai (.h id) pat=some (.row o r)):∀{l:af} {e:aY},a6u s pat A l=true→(aO.h id,e)∈l→abv s A id o r=true
 |[],e,_,hm=>by cases hm
 |(.h j,f)::l,e,h,hm=>by
  simp only[a6u,Bool.and_eq_true]at h
  cases hm with
  |head=>have:=h.1;rw[hl]at this;exact this
  |tail _ hm=>exact CF hl h.2 hm
 |(.r j,f)::l,e,h,hm=>by cases h
theorem tq{s:bw}{pat:af}{id j:Nat}:∀{l:af} {e:aY},Hs s pat id l=true→(aO.h j,e)∈l→id≠j→(tp pat j||tp pat id)=true→s.isNil id=false→s.isNil j=false→s.r id≠s.r j
 |[],e,_,hm=>by cases hm
 |(.h u,f)::l,e,h,hm=>by
  intro hne ho h1 h2
  simp only[Hs,Bool.and_eq_true]at h
  cases hm with
  |head=>
   have h3:=h.1
   have hb:Nat.beq id j=false:=by
    cases hh:Nat.beq id j
    ·rfl
    ·exact absurd (Nat.eq_of_beq_eq_true hh) hne
   rw[hb,ho,h1,h2]at h3
   intro e'
   rw[e',Nat.beq_refl]at h3;cases h3
  |tail _ hm=>exact tq h.2 hm hne ho h1 h2
 |(.r u,f)::l,e,h,hm=>by
  intro hne ho h1 h2
  cases hm with
  |tail _ hm=>exact tq (by simpa only[Hs] using h) hm hne ho h1 h2
theorem tt{s:bw}{pat:af}{id:Nat}:∀{l:af} {e:aY},P8 s pat l=true→(aO.h id,e)∈l→Hs s pat id pat=true
 |[],e,_,hm=>by cases hm
 |(.h u,f)::l,e,h,hm=>by
  simp only[P8,Bool.and_eq_true]at h
  cases hm with
  |head=>exact h.1
  |tail _ hm=>exact tt h.2 hm
 |(.r u,f)::l,e,h,hm=>by
  cases hm with
  |tail _ hm=>exact tt (by simpa only[P8] using h) hm
def abw(s:bw)(A:af)(id:Nat)(o:Bool)(r:am):Prop:=
 (s.isNil id=true∧∀ρ w,r.holds (s.env ρ) id w∧∀b,¬r.owns (s.env ρ) id b)∨
 (s.isNil id=false∧s.isId id=true∧r.ids s=true∧∃o' r',ai (.h (s.r id)) A=some (.row o' r')∧(o=true→o'=true)∧(∀ρ w,r'.holds ρ (s.r id) w↔r.holds (s.env ρ) id w)∧∀ρ b,r'.owns ρ (s.r id) b↔r.owns (s.env ρ) id b)
theorem cF{s:bw}{pat A:af}(h:ol s pat A=true){id:Nat}{o:Bool}{r:am}(hl:ai (.h id) pat=some (.row o r)):abw s A id o r:=by
 unfold ol at h
 rw[Bool.and_eq_true]at h
 have h1:=CF hl h.1 (jd hl)
 unfold abv at h1
 cases hn:s.isNil id
 ·rw[hn]at h1
  simp only[cond_false,Bool.and_eq_true]at h1
  obtain⟨hid,hr,h2⟩:=h1
  split at h2
  ·rename_i o' r' hl'
   simp only[Bool.and_eq_true,Bool.or_eq_true,Bool.not_eq_true']at h2
   refine .inr ⟨hn,hid,hr,o',r',hl',fun ho=>?_,fun ρ w=>?_,fun ρ b=>?_⟩
   ·rcases h2.1 with h3|h3
    ·rw[ho]at h3;cases h3
    ·exact h3
   ·exact⟨fun hh=>(am.fD hid hr).1 (am.va h2.2.1 ρ _ w hh),fun hh=>am.va h2.2.2 ρ _ w ((am.fD hid hr).2 hh)⟩
   ·exact(am.Xp h2.2.1 ρ _ b).symm.trans (am.Nd ρ hid b)
  ·cases h2
 ·rw[hn]at h1
  simp only[cond_true]at h1
  split at h1
  ·exact .inl ⟨hn,fun ρ w=>am.P7 hn (vd h1)⟩
  ·rename_i e ks n le
   refine .inl ⟨hn,fun ρ w=>?_⟩
   have h0:n.den (s.env ρ)=0:=by rw[←IE.aE,vd h1];rfl
   refine⟨?_,fun b hb=>?_⟩
   ·simp only[am.holds,h0];exact fun i hi=>by simp at hi
   ·simp only[am.owns,h0]at hb;obtain⟨i,hi,_⟩:=hb;simp at hi
  ·cases h1
theorem lY{s:bw}{pat A:af}(h:ol s pat A=true){i j:Nat}{o p:Bool}{r q:am}(hi:ai (.h i) pat=some (.row o r))(hj:ai (.h j) pat=some (.row p q))(hne:i≠j)(ho:o=true∨p=true)(h1:s.isNil i=false)(h2:s.isNil j=false):s.r i≠s.r j:=by
 unfold ol at h
 rw[Bool.and_eq_true]at h
 refine tq (tt h.2 (jd hi)) (jd hj) hne ?_ h1 h2
 unfold tp
 rw[hi,hj]
 rcases ho with rfl|rfl
 ·cases p<;>rfl
 ·cases o<;>rfl
theorem HD.via{s:bw}{pat A:af}(h:ol s pat A=true){C:bp}{ρ:ap}{w:World}(H:HD C ρ A w):HD C (s.env ρ) pat w:=by
 refine⟨fun id o r hl=>?_,fun id r hl b hb=>?_,fun id r hl b hb=>?_,fun i j r q hi hj b hb hc=>?_,fun i j r q hij hi hj b hb hc=>?_,H.fr⟩
 ·rcases cF h hl with⟨_,hn⟩|⟨_,_,_,o',r',hl',_,hh,_⟩
  ·exact(hn ρ w).1
  ·exact(hh ρ w).1 (H.rows _ _ _ hl')
 ·rcases cF h hl with⟨_,hn⟩|⟨_,_,_,o',r',hl',ho,_,hw⟩
  ·exact absurd hb ((hn ρ w).2 b)
  ·rw[ho rfl]at hl';exact H.own _ _ hl' b ((hw ρ b).2 hb)
 ·rcases cF h hl with⟨_,hn⟩|⟨_,_,_,o',r',hl',_,_,hw⟩
  ·exact absurd hb ((hn ρ w).2 b)
  ·cases o'
   ·exact H.ro _ _ hl' b ((hw ρ b).2 hb)
   ·exact .inr (H.own _ _ hl' b ((hw ρ b).2 hb))
 ·rcases cF h hi with⟨_,hn⟩|⟨n1,_,_,o1,r1,hl1,_,_,hw1⟩
  ·exact absurd hb ((hn ρ w).2 b)
  ·rcases cF h hj with⟨_,hn⟩|⟨n2,_,_,o2,r2,hl2,ho2,_,hw2⟩
   ·exact absurd hc ((hn ρ w).2 b)
   ·rw[ho2 rfl]at hl2
    have hij:i≠j:=fun e=>by subst e;rw[hi]at hj;cases hj
    exact H.apart (lY h hi hj hij (.inr rfl) n1 n2) hl1 hl2 (.inr rfl) ((hw1 ρ b).2 hb) ((hw2 ρ b).2 hc)
 ·rcases cF h hi with⟨_,hn⟩|⟨n1,_,_,o1,r1,hl1,ho1,_,hw1⟩
  ·exact absurd hb ((hn ρ w).2 b)
  ·rcases cF h hj with⟨_,hn⟩|⟨n2,_,_,o2,r2,hl2,ho2,_,hw2⟩
   ·exact absurd hc ((hn ρ w).2 b)
   ·rw[ho2 rfl]at hl2
    exact H.apart (lY h hi hj hij (.inr rfl) n1 n2) hl1 hl2 (.inr rfl) ((hw1 ρ b).2 hb) ((hw2 ρ b).2 hc)
structure bg where
 f:Nat
 M:Nat
 args:List SV
 H0:af
 pre:List F
 N:Nat
 t:T dt
def bg.ok(P:Program)(c:bg):Prop:=
 ∀(C:bp) (σ:ap) (w:World),ar σ c.pre→HD C σ c.H0 w→Calls P c.f (c.args.map (SV.den σ)).toArray w fun e w'=>∃σ',b7 c.M c.N σ σ'∧
  c.t.post σ' fun x=>ar σ' x.fs∧ar σ' x.pc∧e=.returned (x.s.den σ')∧HD C σ' (x.pre++c.H0) w'
def jX(s:bw)(H:af):af→af
 |[]=>[]
 |(.h id,.row false _)::l=>(bif s.isNil id then jX s H l else match ai (.h (s.r id)) H with
    |some (.row true r)=>(.h (s.r id),.row false r)::jX s H l
    |_=>jX s H l)
 |_::l=>jX s H l
theorem fE{s:bw}{H:af}{k:aO}{e:aY}:∀{l:af},ai k (jX s H l)=some e→∃id o r,(aO.h id,aY.row false o)∈l∧s.isNil id=false∧k=.h (s.r id)∧ai (.h (s.r id)) H=some (.row true r)∧e=.row false r
 |[],h=>by cases h
 |(.h id,.row false o)::l,h=>by
  simp only[jX]at h
  cases hn:s.isNil id
  ·rw[hn]at h
   simp only[cond_false]at h
   split at h
   ·rename_i r hl
    rw[ak]at h
    by_cases hk:aO.h (s.r id)=k
    ·rw[if_pos hk]at h
     exact⟨id,o,r,.head _,hn,hk.symm,hl,(Option.some.inj h).symm⟩
    ·rw[if_neg hk]at h
     obtain⟨id',o',r',hm,h2⟩:=fE h
     exact⟨id',o',r',.tail _ hm,h2⟩
   ·obtain⟨id',o',r',hm,h2⟩:=fE h
    exact⟨id',o',r',.tail _ hm,h2⟩
  ·rw[hn]at h
   obtain⟨id',o',r',hm,h2⟩:=fE h
   exact⟨id',o',r',.tail _ hm,h2⟩
 |(.h id,.row true o)::l,h=>by
  obtain⟨id',o',r',hm,h2⟩:=fE (l:=l) (by simpa only[jX] using h)
  exact⟨id',o',r',.tail _ hm,h2⟩
 |(.h id,.reg _ _)::l,h=>by
  obtain⟨id',o',r',hm,h2⟩:=fE (l:=l) (by simpa only[jX] using h)
  exact⟨id',o',r',.tail _ hm,h2⟩
 |(.h id,.gone)::l,h=>by
  obtain⟨id',o',r',hm,h2⟩:=fE (l:=l) (by simpa only[jX] using h)
  exact⟨id',o',r',.tail _ hm,h2⟩
 |(.r u,f)::l,h=>by
  obtain⟨id',o',r',hm,h2⟩:=fE (l:=l) (by simpa only[jX] using h)
  exact⟨id',o',r',.tail _ hm,h2⟩
def fQ(s:bw):af→af
 |[]=>[]
 |(.h id,.row o r)::l=>(.h (s.r id),.row o (r.on s))::fQ s l
 |(.h id,.gone)::l=>(.h (s.r id),.gone)::fQ s l
 |_::l=>fQ s l
theorem je{s:bw}{k:aO}{o:Bool}{q:am}:∀{l:af},ai k (fQ s l)=some (.row o q)→∃id r,(aO.h id,aY.row o r)∈l∧k=.h (s.r id)∧q=r.on s
 |[],h=>by cases h
 |(.h id,.row o r)::l,h=>by
  simp only[fQ]at h
  rw[ak]at h
  by_cases hk:aO.h (s.r id)=k
  ·rw[if_pos hk]at h
   obtain⟨rfl,rfl⟩:=aY.row.inj (Option.some.inj h)
   exact⟨id,r,.head _,hk.symm,rfl⟩
  ·rw[if_neg hk]at h
   obtain⟨id',r',hm,h2⟩:=je h
   exact⟨id',r',.tail _ hm,h2⟩
 |(.h id,.gone)::l,h=>by
  simp only[fQ]at h
  rw[ak]at h
  by_cases hk:aO.h (s.r id)=k
  ·rw[if_pos hk]at h;cases h
  ·rw[if_neg hk]at h
   obtain⟨id',r',hm,h2⟩:=je h
   exact⟨id',r',.tail _ hm,h2⟩
 |(.h id,.reg _ _)::l,h=>by
  obtain⟨id',r',hm,h2⟩:=je (l:=l) (by simpa only[fQ] using h)
  exact⟨id',r',.tail _ hm,h2⟩
 |(.r u,f)::l,h=>by
  obtain⟨id',r',hm,h2⟩:=je (l:=l) (by simpa only[fQ] using h)
  exact⟨id',r',.tail _ hm,h2⟩
def ni(s:bw)(H0:af):af→Bool
 |[]=>true
 |(.h id,.row _ r)::l=>!(cn (.h id) l)&&(s.isId id&&(r.ids s&&((Nat.ble s.M id||tp H0 id)&&ni s H0 l)))
 |(.h id,.gone)::l=>!(cn (.h id) l)&&(tp H0 id&&ni s H0 l)
 |_=>false
theorem qu{s:bw}{H0:af}{id:Nat}:∀{l:af},ni s H0 l=true→cn (.h id) l=true→cn (.h (s.r id)) (fQ s l)=true
 |[],_,h=>by cases h
 |(.h u,.row p q)::l,g,h=>by
  simp only[ni,Bool.and_eq_true]at g
  simp only[fQ,cn,Bool.or_eq_true]at h⊢
  rcases h with h|h
  ·obtain rfl:=aO.h.inj (aO.dJ.1 h);exact .inl (aO.dJ.2 rfl)
  ·exact .inr (qu g.2.2.2.2 h)
 |(.h u,.gone)::l,g,h=>by
  simp only[ni,Bool.and_eq_true]at g
  simp only[fQ,cn,Bool.or_eq_true]at h⊢
  rcases h with h|h
  ·obtain rfl:=aO.h.inj (aO.dJ.1 h);exact .inl (aO.dJ.2 rfl)
  ·exact .inr (qu g.2.2 h)
 |(.h u,.reg _ _)::l,g,h=>by cases g
 |(.r u,f)::l,g,h=>by cases g
theorem qv{s:bw}{H0:af}{id:Nat}{o:Bool}{r:am}:∀{l:af},ni s H0 l=true→(aO.h id,aY.row o r)∈l→ai (.h id) l=some (.row o r)∧s.isId id=true∧r.ids s=true
 |[],_,h=>by cases h
 |(.h u,.row p q)::l,g,h=>by
  simp only[ni,Bool.and_eq_true,Bool.not_eq_true']at g
  cases h with
  |head=>exact⟨bT _ _ _,g.2.1,g.2.2.1⟩
  |tail _ h=>
   obtain⟨h1,h2,h3⟩:=qv g.2.2.2.2 h
   refine⟨?_,h2,h3⟩
   rw[ak,if_neg,h1]
   intro e
   have:=g.1
   rw[e,jb h1]at this;cases this
 |(.h u,.reg _ _)::l,g,h=>by cases g
 |(.h u,.gone)::l,g,h=>by
  simp only[ni,Bool.and_eq_true,Bool.not_eq_true']at g
  cases h with
  |tail _ h=>
   obtain⟨h1,h2,h3⟩:=qv g.2.2 h
   refine⟨?_,h2,h3⟩
   rw[ak,if_neg,h1]
   intro e
   have:=g.1
   rw[e,jb h1]at this;cases this
 |(.r u,f)::l,g,h=>by cases g
def Xv(s:bw)(dem:af)(x:dt):dt:=⟨x.fs.map (F.on s),x.pc.map (F.on s),x.s.on s,fQ s x.pre++dem⟩
def tOn(s:bw)(dem:af):T dt→T dt
 |.lf x=> .lf (Xv s dem x)
 |.nd c a b=> .nd (c.on s) (tOn s dem a) (tOn s dem b)
 |.or a b=> .or (tOn s dem a) (tOn s dem b)
 |.no=> .no
def Ng(s:bw)(H0:af)(n:Nat)(dem:af):T dt→Bool
 |.lf x=>ni s H0 x.pre&&(x.s.ids s&&(let y:=Xv s dem x;F.avos n ay y.fs&&(F.avos n ay y.pc&&(y.s.avo n ay&&af.avo n ay y.pre))))
 |.nd c a b=>(c.on s).avo n ay&&(Ng s H0 n dem a&&Ng s H0 n dem b)
 |.or a b=>Ng s H0 n dem a&&Ng s H0 n dem b
 |.no=>true
theorem tu{s:bw}{H0:af}{n:Nat}{dem:af}:∀{t:T dt},Ng s H0 n dem t=true→(tOn s dem t).all n (dt.ws n)
 |.lf x,h=>by
  simp only[Ng,Bool.and_eq_true]at h
  exact h.2.2
 |.nd c a b,h=>by
  simp only[Ng,Bool.and_eq_true]at h
  exact⟨h.1,tu h.2.1,tu h.2.2⟩
 |.or a b,h=>by
  simp only[Ng,Bool.and_eq_true]at h
  exact⟨tu h.1,tu h.2⟩
 |.no,_=>trivial
theorem lk{s:bw}{H0:af}{n:Nat}{dem:af}{ρ:ap}{p q:dt→Prop}(hpq:∀x,ni s H0 x.pre=true→x.s.ids s=true→p x→q (Xv s dem x)):∀{t:T dt},Ng s H0 n dem t=true→t.post (s.env ρ) p→(tOn s dem t).post ρ q
 |.lf x,h,hp=>by
  simp only[Ng,Bool.and_eq_true]at h
  exact hpq x h.1 h.2.1 hp
 |.nd c a b,h,hp=>by
  simp only[Ng,Bool.and_eq_true]at h
  simp only[tOn,T.post,BE.aE]at hp⊢
  split at hp
  ·rename_i hc;rw[if_pos hc];exact lk hpq h.2.1 hp
  ·rename_i hc;rw[if_neg hc];exact lk hpq h.2.2 hp
 |.or a b,h,hp=>by
  simp only[Ng,Bool.and_eq_true]at h
  simp only[tOn,T.post]at hp⊢
  exact hp.imp (lk hpq h.1) (lk hpq h.2)
 |.no,_,hp=>hp.elim
def CG:af→Bool
 |[]=>true
 |(k,_)::l=>!(cn k l)&&CG l
theorem CH{k:aO}{e:aY}:∀{l:af},(k,e)∈l→cn k l=true
 |[],h=>by cases h
 |(j,f)::l,h=>by
  simp only[cn,Bool.or_eq_true]
  cases h with
  |head=>exact .inl (aO.dJ.2 rfl)
  |tail _ h=>exact .inr (CH h)
theorem tv{k:aO}{e:aY}:∀{l:af},CG l=true→(k,e)∈l→ai k l=some e
 |[],_,h=>by cases h
 |(j,f)::l,g,h=>by
  simp only[CG,Bool.and_eq_true,Bool.not_eq_true']at g
  cases h with
  |head=>exact bT _ _ _
  |tail _ h=>
   rw[ak,if_neg]
   ·exact tv g.2 h
   ·intro e';rw[e',CH h]at g;cases g.1
def Bs.to(b:Bs)(M n:Nat):bw:=⟨b.is,b.bs,b.ls,b.rs,M,n⟩
def abx(c:bg):aU:=fun f args n H g=>
 bif !(Nat.beq f c.f)then none else
 let s:bw:=(Xu 0 c.M H c.H0 (CE 0 c.M c.args args .nil)).to c.M n
 let n':=n+(c.N-c.M)
 let dem:=jX s H c.H0
 bif s.okB&&(SV.idss s c.args&&(SV.eqrs r0 (SV.ons s c.args) args&&(ol s c.H0 H&&(CG c.H0&&(Nat.ble n' ay&&(Nat.ble c.M c.N&&(af.avo n ay dem&&Ng s c.H0 n' dem c.t)))))))then
  some ⟨(c.pre.filter fun v=>!(nE (v.on s)||qt g (v.on s))).map fun v=>(g,v.on s),tOn s dem c.t,n'⟩
 else none
end
section
variable [cg]
theorem a6w{P:Program}{c:bg}(hc:c.ok P):bI P (abx c):=by
 intro f args n H g out h hH hA hg hn
 unfold abx at h
 cases hf:Nat.beq f c.f
 ·rw[hf]at h;cases h
 rw[hf]at h
 have hff:=Nat.eq_of_beq_eq_true hf
 subst hff
 simp only[Bool.not_true,cond_false]at h
 generalize hs:(Xu 0 c.M H c.H0 (CE 0 c.M c.args args .nil)).to c.M n=s at h
 have hsM:s.M=c.M:=by rw[←hs];rfl
 have hsn:s.n=n:=by rw[←hs];rfl
 clear hs
 generalize hdem:jX s H c.H0=dem at h
 cases hk:(s.okB&&(SV.idss s c.args&&(SV.eqrs r0 (SV.ons s c.args) args&&(ol s c.H0 H&&(CG c.H0&&(Nat.ble (n+(c.N-c.M)) ay&&(Nat.ble c.M c.N&&(af.avo n ay dem&&Ng s c.H0 (n+(c.N-c.M)) dem c.t))))))))
 ·rw[hk]at h;cases h
 rw[hk]at h
 simp only[cond_true]at h
 obtain rfl:=Option.some.inj h
 simp only[Bool.and_eq_true]at hk
 obtain⟨k1,k2,k3,k4,k9,k5,k6,k7,k8⟩:=hk
 have hbig:=Nat.le_of_ble_eq_true k5
 have hMN:=Nat.le_of_ble_eq_true k6
 refine⟨by show n≤n+(c.N-c.M);omega,hbig,tu k8,fun hv C ρ w hgρ HH=>?_⟩
 let σ:=s.env ρ
 let Giv:Nat→Prop:=fun b=>∃id r,ai (.h id) c.H0=some (.row true r)∧r.owns σ id b
 let C':bp:=⟨w,fun b=>b<w.heap.size∧¬Giv b,
  fun b=>C.sh b∨(∃id r,ai (.h id) H=some (.row false r)∧r.owns ρ id b)∨∃id r,ai (.h id) c.H0=some (.row false r)∧r.owns σ id b⟩
 have giv:∀{id r},ai (.h id) c.H0=some (.row true r)→s.isNil id=false→∃r',ai (.h (s.r id)) H=some (.row true r')∧∀b,r'.owns ρ (s.r id) b↔r.owns σ id b:=by
  intro id r hl hnn
  rcases cF k4 hl with⟨hn',_⟩|⟨_,_,_,o',r',hl',ho,_,hw⟩
  ·rw[hnn]at hn';cases hn'
  ·rw[ho rfl]at hl';exact⟨r',hl',hw ρ⟩
 have givN:∀{id r b},ai (.h id) c.H0=some (.row true r)→r.owns σ id b→s.isNil id=false:=by
  intro id r b hl hb
  rcases cF k4 hl with⟨_,hn'⟩|⟨hnn,_⟩
  ·exact absurd hb ((hn' ρ w).2 b)
  ·exact hnn
 have keepC:∀b,C.keep b→C'.keep b:=by
  intro b hb
  refine⟨HH.keep_lt hb,?_⟩
  rintro⟨id,r,hl,hbo⟩
  obtain⟨r',hl',hw⟩:=giv hl (givN hl hbo)
  exact HH.own _ _ hl' b ((hw b).2 hbo) hb
 have shk:∀b,C'.sh b→C'.keep b:=by
  rintro b (hb|⟨id,r,hl,hbo⟩|⟨id,r,hl,hbo⟩)
  ·exact keepC b (HH.fr.shk b hb)
  ·refine⟨HH.lt hl hbo,?_⟩
   rintro⟨id2,r2,hl2,hbo2⟩
   obtain⟨r',hl',hw⟩:=giv hl2 (givN hl2 hbo2)
   exact HH.dis _ _ _ _ hl hl' b hbo ((hw b).2 hbo2)
  ·rcases cF k4 hl with⟨_,hn'⟩|⟨nn,_,_,o',r',hl',_,_,hw⟩
   ·exact absurd hbo ((hn' ρ w).2 b)
   ·refine⟨HH.lt hl' ((hw ρ b).2 hbo),?_⟩
    rintro⟨id2,r2,hl2,hbo2⟩
    have nn2:=givN hl2 hbo2
    obtain⟨r'',hl'',hw2⟩:=giv hl2 nn2
    have hne:id≠id2:=fun e=>by subst e;rw[hl]at hl2;cases hl2
    exact HH.apart (lY k4 hl hl2 hne (.inr rfl) nn nn2) hl' hl'' (.inr rfl) ((hw ρ b).2 hbo) ((hw2 b).2 hbo2)
 have hd0:HD C' σ c.H0 w:=by
  have hb:=HH.via k4
  refine⟨hb.rows,fun id r hl b hbo hk=>hk.2 ⟨id,r,hl,hbo⟩,fun id r hl b hbo=> .inl (.inr (.inr ⟨id,r,hl,hbo⟩)),hb.dis,hb.sep,⟨rfl,rfl,rfl,Nat.le_refl _,fun b hb=>⟨hb.1,rfl⟩,shk⟩⟩
 have hpre:ar σ c.pre:=by
  intro v hvm
  refine(F.fD s ρ v).1 ?_
  cases hp:nE (v.on s)
  ·cases hh:qt g (v.on s)
   ·exact hv (g,v.on s) (List.mem_map.2 ⟨v,List.mem_filter.2 ⟨hvm,by rw[hp,hh];rfl⟩,rfl⟩) ρ hgρ
   ·exact hgρ _ (eP hh)
  ·exact qe hp ρ
 have hargs:(args.map (SV.den ρ))=c.args.map (SV.den σ):=by
  rw[←SV.b9,←SV.b9,SV.Xq k3,SV.jV ρ k2]
 rw[hargs]
 refine(hc C' σ w hpre hd0).mono fun e w' he=>?_
 obtain⟨σ',hagr,hp⟩:=he
 let ρ':=s.out c.N σ' ρ
 have henv:s.env ρ'=σ':=bw.a6t (bw.ok k1) (by rw[hsn,hsM];exact hbig) (by rw[hsM];exact hagr)
 have hag:b7 n (n+(c.N-c.M)) ρ ρ':=by have:=s.Nf c.N σ' ρ;rw[hsn,hsM]at this;exact this
 refine⟨ρ',hag,?_⟩
 rw[←henv]at hp
 refine lk (fun x hx1 hx2 hx=>?_) k8 hp
 obtain⟨p1,p2,p3,p4⟩:=hx
 refine⟨(xe s ρ' x.fs).2 p1,(xe s ρ' x.pc).2 p2,by rw[p3];exact congrArg _ (SV.aE ρ' hx2).symm,?_⟩
 show HD C ρ' ((fQ s x.pre++dem)++H) w'
 have agH:∀{id o r},ai (.h id) H=some (.row o r)→(∀b,r.owns ρ' id b↔r.owns ρ id b)∧(∀w,r.holds ρ id w→r.holds ρ' id w):=by
  intro id o r hl
  have:=af.al (af.ad (Nat.le_refl _) hbig _ hH) hl
  exact⟨am.ce hag this.1 this.2,fun w hh=>am.dp hag this.1 this.2 hh⟩
 let In:Nat→Bool→am→Prop:=fun id o r=>∃id0 r0',ai (.h id0) (x.pre++c.H0)=some (.row o r0')∧s.isNil id0=false∧s.r id0=id∧(r0'.holds (s.env ρ') id0 w'→r.holds ρ' id w')∧∀b,r.owns ρ' id b↔r0'.owns (s.env ρ') id0 b
 let Out:Nat→Bool→am→Prop:=fun id o r=>∃o',ai (.h id) H=some (.row o' r)∧(∀b,r.owns ρ id b→C'.keep b)∧((o'=o∧ai (.h id) dem=none)∨(o=false∧o'=true∧∃r',ai (.h id) dem=some (.row false r')))
 have outK:∀{id o' r},ai (.h id) H=some (.row o' r)→(∀id2 r2,ai (.h id2) c.H0=some (.row true r2)→s.isNil id2=false→s.r id2≠id)→∀b,r.owns ρ id b→C'.keep b:=by
  intro id o' r hl hno b hb
  refine⟨HH.lt hl hb,?_⟩
  rintro⟨id2,r2,hl2,hbo2⟩
  have nn2:=givN hl2 hbo2
  obtain⟨r'',hl'',hw2⟩:=giv hl2 nn2
  exact HH.apart (fun e=>hno id2 r2 hl2 nn2 e.symm) hl hl'' (.inr rfl) hb ((hw2 b).2 hbo2)
 have parts:∀id o r,ai (.h id) ((fQ s x.pre++dem)++H)=some (.row o r)→In id o r∨Out id o r:=by
  intro id o r hl
  rw[List.append_assoc,cG]at hl
  cases hk1:cn (.h id) (fQ s x.pre)
  ·rw[hk1,if_neg (by decide),cG]at hl
   cases hk2:cn (.h id) dem
   ·rw[hk2,if_neg (by decide)]at hl
    by_cases hg2:∃id2 r2,ai (.h id2) c.H0=some (.row true r2)∧s.isNil id2=false∧s.r id2=id
    ·obtain⟨id2,r2,hl2,nn2,hid⟩:=hg2
     subst hid
     refine .inl ?_
     rcases cF k4 hl2 with⟨hn',_⟩|⟨_,_,_,o',r',hl',ho,hh,hw⟩
     ·rw[nn2]at hn';cases hn'
     ·rw[hl']at hl
      obtain⟨rfl,rfl⟩:=aY.row.inj (Option.some.inj hl)
      have hot:=ho rfl
      subst hot
      refine⟨id2,r2,?_,nn2,rfl,fun h=>(hh ρ' w').2 h,fun b=>hw ρ' b⟩
      rw[cG]
      cases hk3:cn (.h id2) x.pre
      ·rw[if_neg (by decide)];exact hl2
      ·exfalso
       have:=qu hx1 hk3
       rw[hk1]at this;cases this
    ·refine .inr ⟨o,hl,outK hl fun id2 r2 h1 h2 h3=>hg2 ⟨id2,r2,h1,h2,h3⟩,.inl ⟨rfl,qo hk2⟩⟩
   ·rw[hk2,if_pos rfl]at hl
    have hl0:=hl
    rw[←hdem]at hl
    obtain⟨id2,o2,r2,hm,nn,hkk,hl2,he⟩:=fE hl
    obtain rfl:=aO.h.inj hkk
    obtain⟨rfl,rfl⟩:=aY.row.inj he
    have hl5:=tv k9 hm
    refine .inr ⟨true,hl2,outK hl2 fun id3 r3 h1 h2 h3=>?_,.inr ⟨rfl,rfl,_,hl0⟩⟩
    have hne:id2≠id3:=fun e=>by subst e;rw[hl5]at h1;cases h1
    exact lY k4 hl5 h1 hne (.inr rfl) nn h2 h3.symm
  ·rw[hk1,if_pos rfl]at hl
   obtain⟨id2,r2,hm,hkk,rfl⟩:=je hl
   obtain rfl:=aO.h.inj hkk
   obtain⟨h1,h2,h3⟩:=qv hx1 hm
   refine .inl ⟨id2,r2,?_,?_,rfl,fun h=>(am.fD h2 h3).2 h,fun b=>am.Nd ρ' h2 b⟩
   ·rw[cG,if_pos (jb h1)];exact h1
   ·unfold bw.isId at h2;unfold bw.isNil
    cases hg2:bX id2 s.rs with
    |none=>rfl
    |some d=>rw[hg2]at h2;cases d<;>first|rfl|cases h2
 have shOut:∀{j s2 b},ai (.h j) ((fQ s x.pre++dem)++H)=some (.row true s2)→Out j true s2→s2.owns ρ j b→¬C'.sh b:=by
  intro j s2 b hlj ho hb hsh
  obtain⟨o',hl',_,hd⟩:=ho
  rcases hd with⟨rfl,hno⟩|⟨h,_⟩
  ·rcases hsh with h|⟨id,r,hl,hbo⟩|⟨id,r,hl,hbo⟩
   ·exact HH.own _ _ hl' b hb (HH.fr.shk b h)
   ·exact HH.dis _ _ _ _ hl hl' b hbo hb
   ·rcases cF k4 hl with⟨_,hn'⟩|⟨nn,_,_,o3,r3,hl3,_,_,hw⟩
    ·exact(hn' ρ w).2 b hbo
    ·have hbo3:=(hw ρ b).2 hbo
     cases o3
     ·exact HH.dis _ _ _ _ hl3 hl' b hbo3 hb
     ·by_cases hij:s.r id=j
      ·
       have:cn (.h (s.r id)) dem=true:=by
        rw[←hdem]
        have hm:=jd hl
        have gen:∀{l:af},(aO.h id,aY.row false r)∈l→cn (.h (s.r id)) (jX s H l)=true:=by
         intro l
         induction l with
         |nil=>intro h;cases h
         |cons y l ih=>
          intro h
          cases h with
          |head=>
           simp only[jX,nn,cond_false,hl3,cn,Bool.or_eq_true]
           exact .inl (aO.dJ.2 rfl)
          |tail _ h=>
           have ih:=ih h
           obtain⟨ky,ey⟩:=y
           cases ky with
           |r t=>simpa only[jX] using ih
           |h u=>cases ey with
            |row p q=>cases p with
             |true=>simpa only[jX] using ih
             |false=>
              simp only[jX]
              cases s.isNil u
              ·simp only[cond_false]
               split
               ·simp only[cn,Bool.or_eq_true];exact .inr ih
               ·exact ih
              ·exact ih
            |reg _ _=>simpa only[jX] using ih
            |gone=>simpa only[jX] using ih
        exact gen hm
       rw[hij]at this
       rw[←hij]at hno
       rw[hij]at hno
       have h7:ai (.h j) dem≠none:=by
        intro hn7
        have:∀{L:af},cn (.h j) L=true→ai (.h j) L≠none:=by
         intro L
         induction L with
         |nil=>intro h;cases h
         |cons y l ih=>
          intro h
          obtain⟨ky,ey⟩:=y
          rw[ak]
          by_cases hk:ky=.h j
          ·rw[if_pos hk];exact fun h=>by cases h
          ·rw[if_neg hk]
           simp only[cn,Bool.or_eq_true]at h
           exact ih (h.resolve_left fun h=>hk (aO.dJ.1 h))
        exact this ‹_› hn7
       exact h7 hno
      ·exact HH.sep _ _ _ _ hij hl3 hl' b hbo3 hb
  ·cases h
 have keepOut:∀{j o s2 b},Out j o s2→s2.owns ρ j b→C'.keep b:=fun ho hb=>ho.choose_spec.2.1 _ hb
 have outH:∀{j o s2},Out j o s2→∃o',ai (.h j) H=some (.row o' s2)∧(o=true→o'=true):=by
  rintro j o s2 ⟨o',hl',_,⟨rfl,_⟩|⟨rfl,rfl,_⟩⟩
  ·exact⟨o',hl',fun h=>h⟩
  ·exact⟨true,hl',fun _=>rfl⟩
 refine⟨fun id o r hl=>?_,fun id r hl b hb=>?_,fun id r hl b hb=>?_,fun i j r s2 hi hj b hb hc2=>?_,fun i j r s2 hij hi hj b hb hc2=>?_,?_⟩
 ·rcases parts id o r hl with⟨id0,q,h1,_,_,h2,_⟩|ho
  ·exact h2 (p4.rows _ _ _ h1)
  ·obtain⟨o',hl',_⟩:=outH ho
   refine am.gy ((agH hl').2 w (HH.rows _ _ _ hl')) fun b hb=>?_
   exact(p4.fr.keep b (keepOut ho (((agH hl').1 b).1 hb))).2
 ·rcases parts id true r hl with⟨id0,q,h1,_,_,_,h2⟩|ho
  ·exact fun hk=>p4.own _ _ h1 b ((h2 b).1 hb) (keepC b hk)
  ·obtain⟨o',hl',h3⟩:=outH ho
   rw[h3 rfl]at hl'
   exact HH.own _ _ hl' b (((agH hl').1 b).1 hb)
 ·rcases parts id false r hl with⟨id0,q,h1,_,_,_,h2⟩|ho
  ·rcases p4.ro _ _ h1 b ((h2 b).1 hb)with(h|⟨id,r,hl,hbo⟩|⟨id,r,hl,hbo⟩)|h
   ·exact .inl h
   ·exact HH.ro _ _ hl b hbo
   ·rcases cF k4 hl with⟨_,hn'⟩|⟨nn,_,_,o3,r3,hl3,_,_,hw⟩
    ·exact absurd hbo ((hn' ρ w).2 b)
    ·cases o3
     ·exact HH.ro _ _ hl3 b ((hw ρ b).2 hbo)
     ·exact .inr (HH.own _ _ hl3 b ((hw ρ b).2 hbo))
   ·exact .inr fun hk=>h (keepC b hk)
  ·obtain⟨o',hl',_⟩:=outH ho
   cases o'
   ·exact HH.ro _ _ hl' b (((agH hl').1 b).1 hb)
   ·exact .inr (HH.own _ _ hl' b (((agH hl').1 b).1 hb))
 ·rcases parts i false r hi with⟨id0,q,h1,n1,e1,_,h2⟩|ho1
  ·rcases parts j true s2 hj with⟨id1,q1,h3,n3,e3,_,h4⟩|ho2
   ·exact p4.dis _ _ _ _ h1 h3 b ((h2 b).1 hb) ((h4 b).1 hc2)
   ·obtain⟨o2,hl2,_⟩:=outH ho2
    have hb2:=((agH hl2).1 b).1 hc2
    rcases p4.ro _ _ h1 b ((h2 b).1 hb)with h|h
    ·exact shOut hj ho2 hb2 h
    ·exact h (keepOut ho2 hb2)
  ·obtain⟨o1,hl1,_⟩:=outH ho1
   have hb1:=((agH hl1).1 b).1 hb
   rcases parts j true s2 hj with⟨id1,q1,h3,_,_,_,h4⟩|ho2
   ·exact p4.own _ _ h3 b ((h4 b).1 hc2) (keepOut ho1 hb1)
   ·obtain⟨o2,hl2,ht⟩:=outH ho2
    have hb2:=((agH hl2).1 b).1 hc2
    rw[ht rfl]at hl2
    have hij:i≠j:=fun e=>by subst e;rw[hi]at hj;cases hj
    exact HH.apart hij hl1 hl2 (.inr rfl) hb1 hb2
 ·rcases parts i true r hi with⟨id0,q,h1,_,e1,_,h2⟩|ho1
  ·rcases parts j true s2 hj with⟨id1,q1,h3,_,e3,_,h4⟩|ho2
   ·exact p4.sep _ _ _ _ (fun e=>hij (by rw[←e1,←e3,e])) h1 h3 b ((h2 b).1 hb) ((h4 b).1 hc2)
   ·obtain⟨o2,hl2,_⟩:=outH ho2
    exact p4.own _ _ h1 b ((h2 b).1 hb) (keepOut ho2 (((agH hl2).1 b).1 hc2))
  ·obtain⟨o1,hl1,ht1⟩:=outH ho1
   have hb1:=((agH hl1).1 b).1 hb
   rcases parts j true s2 hj with⟨id1,q1,h3,_,_,_,h4⟩|ho2
   ·exact p4.own _ _ h3 b ((h4 b).1 hc2) (keepOut ho1 hb1)
   ·obtain⟨o2,hl2,ht⟩:=outH ho2
    have hb2:=((agH hl2).1 b).1 hc2
    rw[ht rfl]at hl2
    exact HH.apart hij hl1 hl2 (.inr rfl) hb1 hb2
 ·exact⟨p4.fr.os.trans HH.fr.os,p4.fr.tape.trans HH.fr.tape,p4.fr.output.trans HH.fr.output,Nat.le_trans HH.fr.size p4.fr.size,
   fun b hb=>⟨(HH.fr.keep b hb).1,(p4.fr.keep b (keepC b hb)).2.trans (HH.fr.keep b hb).2⟩,HH.fr.shk⟩
end
section
variable [cg]
def a6x(N n':Nat)(σ τ:ap):ap:=
 {i:=fun v=>if N≤v∧v<n' then σ.i v else τ.i v,b:=fun v=>if N≤v∧v<n' then σ.b v else τ.b v,k:=fun v=>if N≤v∧v<n' then σ.k v else τ.k v,f:=fun v=>if N≤v∧v<n' then σ.f v else τ.f v,l:=fun v=>if N≤v∧v<n' then σ.l v else τ.l v,x:=fun v=>if N≤v∧v<n' then σ.x v else τ.x v,y:=fun v=>if N≤v∧v<n' then σ.y v else τ.y v}
theorem Xw(N n':Nat)(σ τ:ap):b7 N n' τ (a6x N n' σ τ):=by
 constructor<;>intro v hv<;>simp only[a6x]<;>rw[if_neg (by omega)]
def aad(c:bg)(post x:dt):bw:=(Xu c.M c.N (x.pre++c.H0) post.pre (mSV c.M c.N post.s x.s .nil)).to c.N c.N
def inR{α:Type}(lo hi:Nat)(l:List (Nat×α)):Bool:=l.all fun d=>Nat.ble lo d.1&&Nat.blt d.1 hi
theorem om{α:Type}{lo hi:Nat}{l:List (Nat×α)}(h:inR lo hi l=true){v:Nat}(hv:v<lo∨hi≤v):bX v l=none:=by
 cases hg:bX v l with
 |none=>rfl
 |some d=>
  have:=List.all_eq_true.1 h _ (gj hg)
  rw[Bool.and_eq_true]at this
  have h1:=Nat.le_of_ble_eq_true this.1
  have h2:v+1≤hi:=Nat.le_of_ble_eq_true this.2
  exfalso;simp only at h1;omega
def kP(c:bg)(post:dt):T dt→Option dU
 |.lf x=>
  let s:=aad c post x
  bif (inR c.M c.N s.is&&(inR c.M c.N s.bs&&(inR c.M c.N s.ls&&inR c.M c.N s.rs)))&&(post.s.ids s&&((post.s.on s).eqr r0 x.s&&ol s (post.pre++c.H0) (x.pre++c.H0)))then
   some (post.fs.map fun f=>(c.pre++(x.fs++x.pc),f.on s))
  else none
 |.nd _ a b=>match kP c post a,kP c post b with
  |some u,some v=>some (u++v)
  |_,_=>none
 |.or a b=>match kP c post a,kP c post b with
  |some u,some v=>some (u++v)
  |_,_=>none
 |.no=>some []
theorem eQ{c:bg}{post:dt}(hpc:post.pc=[])(hMN:c.M≤c.N)(hNB:c.N≤ay)(a1:af.avo c.M ay c.H0=true)(a2:F.avos c.N ay post.fs=true)(a3:post.s.avo c.N ay=true)(a4:af.avo c.N ay post.pre=true)
 {σ ρ':ap} {n':Nat} (hn':n'≤ay) (hag:b7 c.M n' σ ρ') {C:bp} {e:Ending} {w:World} (hpre:ar ρ' c.pre):
 ∀{t:T dt} {v:dU},kP c post t=some v→ab v→(t.post ρ' fun x=>ar ρ' x.fs∧ar ρ' x.pc∧e=.returned (x.s.den ρ')∧HD C ρ' (x.pre++c.H0) w)→
  ∃σ',b7 c.M c.N σ σ'∧(T.lf post).post σ' fun x=>ar σ' x.fs∧ar σ' x.pc∧e=.returned (x.s.den σ')∧HD C σ' (x.pre++c.H0) w
 |.lf x,v,h,hv,hp=>by
  simp only[kP]at h
  generalize hs:aad c post x=s at h
  have hsM:s.M=c.N:=by rw[←hs];rfl
  have hsn:s.n=c.N:=by rw[←hs];rfl
  clear hs
  cases hb:((inR c.M c.N s.is&&(inR c.M c.N s.bs&&(inR c.M c.N s.ls&&inR c.M c.N s.rs)))&&(post.s.ids s&&((post.s.on s).eqr r0 x.s&&ol s (post.pre++c.H0) (x.pre++c.H0))))
  ·rw[hb]at h;cases h
  rw[hb]at h
  obtain rfl:=Option.some.inj h
  simp only[Bool.and_eq_true]at hb
  obtain⟨b1,b2,b3,b4⟩:=hb
  obtain⟨p1,p2,p3,p4⟩:=hp
  have hdv:∀v,s.dv v=v:=by
   intro v
   unfold bw.dv
   rw[hsM,hsn]
   rcases Nat.lt_or_ge v c.N with hv|hv
   ·rw[show Nat.blt v c.N=true from Nat.ble_eq_true_of_le hv];rfl
   ·cases hh:Nat.blt v c.N
    ·show c.N+(v-c.N)=v;omega
    ·rfl
  obtain⟨bi,bb,bl,br⟩:=b1
  let τ:=s.env ρ'
  have old:∀v,v<c.M∨c.N≤v→τ.i v=ρ'.i v∧τ.b v=ρ'.b v∧τ.k v=ρ'.k v∧τ.f v=ρ'.f v∧τ.l v=ρ'.l v∧τ.x v=ρ'.x v∧τ.y v=ρ'.y v:=by
   intro v hv
   simp only[τ,bw.env,bw.i,bw.b,bw.l,bw.r,bw.x,om bi hv,om bb hv,om bl hv,om br hv,hdv,IE.den,BE.den,LE.den,SV.den,and_self]
  let σ':=a6x c.N n' σ τ
  have ag1:b7 c.N n' τ σ':=Xw _ _ _ _
  have ag2:b7 c.M c.N σ σ':=by
   constructor<;>intro v hv<;>simp only[σ',a6x]<;>by_cases hc:c.N≤v∧v<n'
   ·rw[if_pos hc]
   ·rw[if_neg hc,(old v hv).1];exact hag.i v (by omega)
   ·rw[if_pos hc]
   ·rw[if_neg hc,(old v hv).2.1];exact hag.b v (by omega)
   ·rw[if_pos hc]
   ·rw[if_neg hc,(old v hv).2.2.1];exact hag.k v (by omega)
   ·rw[if_pos hc]
   ·rw[if_neg hc,(old v hv).2.2.2.1];exact hag.f v (by omega)
   ·rw[if_pos hc]
   ·rw[if_neg hc,(old v hv).2.2.2.2.1];exact hag.l v (by omega)
   ·rw[if_pos hc]
   ·rw[if_neg hc,(old v hv).2.2.2.2.2.1];exact hag.x v (by omega)
   ·rw[if_pos hc]
   ·rw[if_neg hc,(old v hv).2.2.2.2.2.2];exact hag.y v (by omega)
  have hfs:ar τ post.fs:=by
   refine(xe s ρ' post.fs).1 fun f hf=>?_
   obtain⟨f0,hf0,rfl⟩:=List.mem_map.1 hf
   exact hv _ (List.mem_map.2 ⟨f0,hf0,rfl⟩) ρ' (aA.2 ⟨hpre,aA.2 ⟨p1,p2⟩⟩)
  have ag1':b7 c.N ay τ σ':=ag1.mono (Nat.le_refl _) hn'
  refine⟨σ',ag2,(aZ ag1' a2).2 hfs,by rw[hpc];exact aj _,?_,?_⟩
  ·rw[p3,SV.ag ag1' post.s a3,←SV.aE ρ' b2,SV.a6s b3]
  ·exact(p4.via b4).agr ag1' (af.cH a4 (af.ad hMN (Nat.le_refl _) _ a1))
 |.nd d a b,v,h,hv,hp=>by
  simp only[kP]at h
  split at h
  ·rename_i u1 u2 e1 e2
   obtain rfl:=Option.some.inj h
   simp only[T.post]at hp
   split at hp
   ·exact eQ hpc hMN hNB a1 a2 a3 a4 hn' hag hpre e1 hv.app.1 hp
   ·exact eQ hpc hMN hNB a1 a2 a3 a4 hn' hag hpre e2 hv.app.2 hp
  ·cases h
 |.or a b,v,h,hv,hp=>by
  simp only[kP]at h
  split at h
  ·rename_i u1 u2 e1 e2
   obtain rfl:=Option.some.inj h
   rcases hp with hp|hp
   ·exact eQ hpc hMN hNB a1 a2 a3 a4 hn' hag hpre e1 hv.app.1 hp
   ·exact eQ hpc hMN hNB a1 a2 a3 a4 hn' hag hpre e2 hv.app.2 hp
  ·cases h
 |.no,v,h,hv,hp=>hp.elim
def Ht:List bg→aU
 |[],_,_,_,_,_=>none
 |c::l,f,args,n,H,g=>match abx c f args n H g with
  |some o=>some o
  |none=>Ht l f args n H g
theorem jY{P:Program}:∀{l:List bg},(∀c,c∈l→c.ok P)→bI P (Ht l)
 |[],_=>fun f args n H g out h=>by cases h
 |c::l,hl=>fun f args n H g out h=>by
  simp only[Ht]at h
  split at h
  ·rename_i o ho
   obtain rfl:=Option.some.inj h
   exact a6w (hl c (.head _)) f args n H g _ ho
  ·exact jY (fun c hc=>hl c (.tail _ hc)) f args n H g out h
end
section
variable [cg]
def CI(g:List F):List F→Bool
 |[]=>false
 |.be (.not c)::r=>qt g (.be c)||CI g r
 |_::r=>CI g r
theorem eR{ρ:ap}{g:List F}(hg:ar ρ g):∀{l:List F},ar ρ l→CI g l=true→False
 |[],_,h=>by cases h
 |.be (.not c)::r,hl,h=>by
  simp only[CI,Bool.or_eq_true]at h
  rcases h with h|h
  ·have h1:c.den ρ=true:=hg _ (eP h)
   have h2:(BE.not c).den ρ=true:=(aa.1 hl).1
   simp only[BE.den,h1]at h2;cases h2
  ·exact eR hg (aa.1 hl).2 h
 |.be (.lit _)::r,hl,h=>eR hg (aa.1 hl).2 h
 |.be (.var _)::r,hl,h=>eR hg (aa.1 hl).2 h
 |.be (.cmp _ _ _)::r,hl,h=>eR hg (aa.1 hl).2 h
 |.be (.ite _ _ _)::r,hl,h=>eR hg (aa.1 hl).2 h
 |.be (.eqb _ _)::r,hl,h=>eR hg (aa.1 hl).2 h
 |.rel _ _ _::r,hl,h=>eR hg (aa.1 hl).2 h
 |.imp _ _::r,hl,h=>eR hg (aa.1 hl).2 h
def Xx(g:List F)(f:F):Bool:=
 match f with
 |.be (.cmp .lss (.nat a) (.nat b))=>qt g (.be (.cmp .leq (.lit 0) a))&&(qt g (.be (.cmp .lss a b))||qt g (.be (.cmp .lss a (.nat b))))
 |.be (.cmp .lss (.lit a) (.lit b))=>bv .lss a b
 |.be (.cmp .leq (.lit a) (.lit b))=>bv .leq a b
 |.be (.cmp .lss a (.nat b))=>qt g (.be (.cmp .lss a b))
 |.be (.cmp .leq (.lit (.ofNat 0)) (.nat a))=>true
 |.be (.lit true)=>true
 |_=>false
theorem Xy{ρ:ap}{g:List F}(hg:ar ρ g){f:F}(h:Xx g f=true):f.holds ρ:=by
 unfold Xx at h
 split at h
 ·rename_i a b
  simp only[Bool.and_eq_true,Bool.or_eq_true]at h
  have h0:=bD.1 (hg _ (eP h.1))
  simp only[IE.den]at h0
  rw[fC]
  simp only[IE.den]
  rcases h.2 with h1|h1
  ·have:=fC.1 (hg _ (eP h1));omega
  ·have:=fC.1 (hg _ (eP h1));simp only[IE.den]at this;omega
 ·exact h
 ·exact h
 ·rename_i a b _
  have:=fC.1 (hg _ (eP h))
  rw[fC];simp only[IE.den];omega
 ·rw[bD];simp only[IE.den];show(0:Int)≤_;omega
 ·rfl
 ·cases h
def Hu(want:dU)(v:List F×F):Nat→Bool
 |0=>Xx v.1 v.2
 |1=>CI v.1 v.1
 |2=>qt v.1 v.2
 |k+3=>match want[k]? with
  |some u=>(u.2.eqq v.2||u.2.eqq (.be (.lit false)))&&u.1.all (qt v.1)
  |none=>false
def cvI(want:dU):List Nat→dU→Bool
 |_,[]=>true
 |k::ks,v::vs=>Hu want v k&&cvI want ks vs
 |[],_::_=>false
theorem P9{want:dU}(hw:ab want){v:List F×F}{k:Nat}(h:Hu want v k=true):∀ρ,ar ρ v.1→v.2.holds ρ:=by
 intro ρ hg
 unfold Hu at h
 split at h
 ·exact Xy hg h
 ·exact(eR hg hg h).elim
 ·exact hg _ (eP h)
 ·split at h
  ·rename_i u hu
   exact Xn (vcs:=[v]) hw (by
    simp only[aa7,cov,List.all_cons,List.all_nil,Bool.and_true,Bool.or_eq_true]
    exact .inr (List.any_eq_true.2 ⟨u,List.mem_of_getElem? hu,h⟩)) v (.head _) ρ hg
  ·cases h
theorem jZ{want:dU}(hw:ab want):∀{ks:List Nat} {vs:dU},cvI want ks vs=true→ab vs
 |_,[],_=>fun v hv=>by cases hv
 |[],_::_,h=>by simp only[cvI]at h;cases h
 |k::ks,v::vs,h=>by
  simp only[cvI,Bool.and_eq_true]at h
  intro x hx
  cases hx with
  |head=>exact P9 hw h.1
  |tail _ hx=>exact jZ hw h.2 x hx
theorem ab.app1{u v:dU}(h:ab (u++v)):ab u:=fun x hx=>h x (List.mem_append.2 (.inl hx))
theorem ab.app2{u v:dU}(h:ab (u++v)):ab v:=fun x hx=>h x (List.mem_append.2 (.inr hx))
def tw(c:bg)(want:dU)(ks:List Nat)(o:Option sQ):Bool:=
 match c.t,o with
 |.lf post,some o=>
  match kP c post o.t with
  |some v=>(match post.pc with|[]=>true|_=>false)&&(Nat.ble c.M c.N&&(Nat.ble c.N ay&&(af.avo c.M ay c.H0&&(SV.avos c.M ay c.args&&(F.avos c.M ay c.pre&&(F.avos c.N ay post.fs&&(post.s.avo c.N ay&&(af.avo c.N ay post.pre&&cvI want ks (o.vcs++v)))))))))
  |none=>false
 |_,_=>false
theorem CJ{P:Program}{call:aU}(hcall:bI P call){c:bg}{want:dU}{ks:List Nat}(hw:ab want)(h:tw c want ks (call c.f c.args c.M c.H0 c.pre)=true):c.ok P:=by
 intro C σ w hpre hd
 unfold tw at h
 split at h
 ·rename_i post o hct hco
  split at h
  ·rename_i v hlv
   simp only[Bool.and_eq_true]at h
   obtain⟨h1,h2,h3,h4,h5,h6,h7,h8,h9,h10⟩:=h
   have hpc:post.pc=[]:=by
    split at h1
    ·assumption
    ·cases h1
   have hMN:=Nat.le_of_ble_eq_true h2
   have hNB:=Nat.le_of_ble_eq_true h3
   obtain⟨c1,c2,_,c4⟩:=hcall c.f c.args c.M c.H0 c.pre o hco h4 h5 h6 (by omega)
   refine(c4 ((jZ hw h10).app1) C σ w hpre hd).mono fun e w' he=>?_
   obtain⟨ρ',hag,hp⟩:=he
   have hpre':ar ρ' c.pre:=(aZ (hag.mono (Nat.le_refl _) c2) h6).2 hpre
   rw[hct]
   exact eQ hpc hMN hNB h4 h7 h8 h9 c2 hag hpre' hlv ((jZ hw h10).app2) hp
  ·cases h
 ·cases h
def oo(c:bg)(p1 p2:dt):T dt→Option dU
 |.lf x=>match kP c p1 (.lf x)with
  |some v=>some v
  |none=>kP c p2 (.lf x)
 |.nd _ a b=>match oo c p1 p2 a,oo c p1 p2 b with
  |some u,some v=>some (u++v)
  |_,_=>none
 |.or a b=>match oo c p1 p2 a,oo c p1 p2 b with
  |some u,some v=>some (u++v)
  |_,_=>none
 |.no=>some []
theorem ln{c:bg}{p1 p2:dt}(hpc1:p1.pc=[])(hpc2:p2.pc=[])(hMN:c.M≤c.N)(hNB:c.N≤ay)(a1:af.avo c.M ay c.H0=true)(a2:F.avos c.N ay p1.fs=true)(a3:p1.s.avo c.N ay=true)(a4:af.avo c.N ay p1.pre=true)
 (b2:F.avos c.N ay p2.fs=true) (b3:p2.s.avo c.N ay=true) (b4:af.avo c.N ay p2.pre=true)
 {σ ρ':ap} {n':Nat} (hn':n'≤ay) (hag:b7 c.M n' σ ρ') {C:bp} {e:Ending} {w:World} (hpre:ar ρ' c.pre):
 ∀{t:T dt} {v:dU},oo c p1 p2 t=some v→ab v→(t.post ρ' fun x=>ar ρ' x.fs∧ar ρ' x.pc∧e=.returned (x.s.den ρ')∧HD C ρ' (x.pre++c.H0) w)→
  ∃σ',b7 c.M c.N σ σ'∧(T.or (T.lf p1) (T.lf p2)).post σ' fun x=>ar σ' x.fs∧ar σ' x.pc∧e=.returned (x.s.den σ')∧HD C σ' (x.pre++c.H0) w
 |.lf x,v,h,hv,hp=>by
  simp only[oo]at h
  split at h
  ·rename_i u hu
   obtain rfl:=Option.some.inj h
   obtain⟨σ',h1,h2⟩:=eQ hpc1 hMN hNB a1 a2 a3 a4 hn' hag hpre hu hv hp
   exact⟨σ',h1,.inl h2⟩
  ·obtain⟨σ',h1,h2⟩:=eQ hpc2 hMN hNB a1 b2 b3 b4 hn' hag hpre h hv hp
   exact⟨σ',h1,.inr h2⟩
 |.nd q a b,v,h,hv,hp=>by
  simp only[oo]at h
  split at h
  ·rename_i u1 u2 h1 h2
   obtain rfl:=Option.some.inj h
   simp only[T.post]at hp
   split at hp
   ·exact ln hpc1 hpc2 hMN hNB a1 a2 a3 a4 b2 b3 b4 hn' hag hpre h1 hv.app1 hp
   ·exact ln hpc1 hpc2 hMN hNB a1 a2 a3 a4 b2 b3 b4 hn' hag hpre h2 hv.app2 hp
  ·cases h
 |.or a b,v,h,hv,hp=>by
  simp only[oo]at h
  split at h
  ·rename_i u1 u2 h1 h2
   obtain rfl:=Option.some.inj h
   rcases hp with hp|hp
   ·exact ln hpc1 hpc2 hMN hNB a1 a2 a3 a4 b2 b3 b4 hn' hag hpre h1 hv.app1 hp
   ·exact ln hpc1 hpc2 hMN hNB a1 a2 a3 a4 b2 b3 b4 hn' hag hpre h2 hv.app2 hp
  ·cases h
 |.no,v,h,hv,hp=>hp.elim
def qw:List F→Bool
 |[]=>true
 |_=>false
def abz(c:bg)(want:dU)(ks:List Nat)(o:Option sQ):Bool:=
 match c.t,o with
 |.or (.lf p1) (.lf p2),some o=>
  match oo c p1 p2 o.t with
  |some v=>qw p1.pc&&(qw p2.pc&&(Nat.ble c.M c.N&&(Nat.ble c.N ay&&(af.avo c.M ay c.H0&&(SV.avos c.M ay c.args&&(F.avos c.M ay c.pre&&((F.avos c.N ay p1.fs&&(p1.s.avo c.N ay&&af.avo c.N ay p1.pre))&&
   ((F.avos c.N ay p2.fs&&(p2.s.avo c.N ay&&af.avo c.N ay p2.pre))&&cvI want ks (o.vcs++v)))))))))
  |none=>false
 |_,_=>false
theorem a6z{P:Program}{call:aU}(hcall:bI P call){c:bg}{want:dU}{ks:List Nat}(hw:ab want)(h:abz c want ks (call c.f c.args c.M c.H0 c.pre)=true):c.ok P:=by
 intro C σ w hpre hd
 unfold abz at h
 split at h
 ·rename_i p1 p2 o hct hco
  split at h
  ·rename_i v hlv
   simp only[Bool.and_eq_true]at h
   obtain⟨h0,h1,h2,h3,h4,h5,h6,⟨a2,a3,a4⟩,⟨b2,b3,b4⟩,h10⟩:=h
   have e0:p1.pc=[]:=by unfold qw at h0;split at h0;assumption;cases h0
   have e1:p2.pc=[]:=by unfold qw at h1;split at h1;assumption;cases h1
   have hMN:=Nat.le_of_ble_eq_true h2
   have hNB:=Nat.le_of_ble_eq_true h3
   obtain⟨c1,c2,_,c4⟩:=hcall c.f c.args c.M c.H0 c.pre o hco h4 h5 h6 (by omega)
   refine(c4 ((jZ hw h10).app1) C σ w hpre hd).mono fun e w' he=>?_
   obtain⟨ρ',hag,hp⟩:=he
   have hpre':ar ρ' c.pre:=(aZ (hag.mono (Nat.le_refl _) c2) h6).2 hpre
   rw[hct]
   exact ln e0 e1 hMN hNB h4 a2 a3 a4 b2 b3 b4 c2 hag hpre' hlv ((jZ hw h10).app2) hp
  ·cases h
 ·cases h
def oq(c:bg)(post:dt):T dt→Option dU
 |.lf x=>match kP c post (.lf x)with
  |some v=>some v
  |none=>some [(c.pre++(x.fs++x.pc),.be (.lit false))]
 |.nd _ a b=>match oq c post a,oq c post b with
  |some u,some v=>some (u++v)
  |_,_=>none
 |.or a b=>match oq c post a,oq c post b with
  |some u,some v=>some (u++v)
  |_,_=>none
 |.no=>some []
theorem lq{c:bg}{post:dt}(hpc:post.pc=[])(hMN:c.M≤c.N)(hNB:c.N≤ay)(a1:af.avo c.M ay c.H0=true)(a2:F.avos c.N ay post.fs=true)(a3:post.s.avo c.N ay=true)(a4:af.avo c.N ay post.pre=true)
 {σ ρ':ap} {n':Nat} (hn':n'≤ay) (hag:b7 c.M n' σ ρ') {C:bp} {e:Ending} {w:World} (hpre:ar ρ' c.pre):
 ∀{t:T dt} {v:dU},oq c post t=some v→ab v→(t.post ρ' fun x=>ar ρ' x.fs∧ar ρ' x.pc∧e=.returned (x.s.den ρ')∧HD C ρ' (x.pre++c.H0) w)→
  ∃σ',b7 c.M c.N σ σ'∧(T.lf post).post σ' fun x=>ar σ' x.fs∧ar σ' x.pc∧e=.returned (x.s.den σ')∧HD C σ' (x.pre++c.H0) w
 |.lf x,v,h,hv,hp=>by
  simp only[oq]at h
  split at h
  ·rename_i u hu
   obtain rfl:=Option.some.inj h
   exact eQ hpc hMN hNB a1 a2 a3 a4 hn' hag hpre hu hv hp
  ·obtain rfl:=Option.some.inj h
   have:=hv _ (.head _) ρ' (aA.2 ⟨hpre,aA.2 ⟨hp.1,hp.2.1⟩⟩)
   cases this
 |.nd q a b,v,h,hv,hp=>by
  simp only[oq]at h
  split at h
  ·rename_i u1 u2 h1 h2
   obtain rfl:=Option.some.inj h
   simp only[T.post]at hp
   split at hp
   ·exact lq hpc hMN hNB a1 a2 a3 a4 hn' hag hpre h1 hv.app1 hp
   ·exact lq hpc hMN hNB a1 a2 a3 a4 hn' hag hpre h2 hv.app2 hp
  ·cases h
 |.or a b,v,h,hv,hp=>by
  simp only[oq]at h
  split at h
  ·rename_i u1 u2 h1 h2
   obtain rfl:=Option.some.inj h
   rcases hp with hp|hp
   ·exact lq hpc hMN hNB a1 a2 a3 a4 hn' hag hpre h1 hv.app1 hp
   ·exact lq hpc hMN hNB a1 a2 a3 a4 hn' hag hpre h2 hv.app2 hp
  ·cases h
 |.no,v,h,hv,hp=>hp.elim
def ac0(c:bg)(want:dU)(ks:List Nat)(o:Option sQ):Bool:=
 match c.t,o with
 |.lf post,some o=>
  match oq c post o.t with
  |some v=>qw post.pc&&(Nat.ble c.M c.N&&(Nat.ble c.N ay&&(af.avo c.M ay c.H0&&(SV.avos c.M ay c.args&&(F.avos c.M ay c.pre&&((F.avos c.N ay post.fs&&(post.s.avo c.N ay&&af.avo c.N ay post.pre))&&cvI want ks (o.vcs++v)))))))
  |none=>false
 |_,_=>false
theorem a70{P:Program}{call:aU}(hcall:bI P call){c:bg}{want:dU}{ks:List Nat}(hw:ab want)(h:ac0 c want ks (call c.f c.args c.M c.H0 c.pre)=true):c.ok P:=by
 intro C σ w hpre hd
 unfold ac0 at h
 split at h
 ·rename_i post o hct hco
  split at h
  ·rename_i v hlv
   simp only[Bool.and_eq_true]at h
   obtain⟨h0,h2,h3,h4,h5,h6,⟨a2,a3,a4⟩,h10⟩:=h
   have e0:post.pc=[]:=by unfold qw at h0;split at h0;assumption;cases h0
   have hMN:=Nat.le_of_ble_eq_true h2
   have hNB:=Nat.le_of_ble_eq_true h3
   obtain⟨c1,c2,_,c4⟩:=hcall c.f c.args c.M c.H0 c.pre o hco h4 h5 h6 (by omega)
   refine(c4 ((jZ hw h10).app1) C σ w hpre hd).mono fun e w' he=>?_
   obtain⟨ρ',hag,hp⟩:=he
   have hpre':ar ρ' c.pre:=(aZ (hag.mono (Nat.le_refl _) c2) h6).2 hpre
   rw[hct]
   exact lq e0 hMN hNB h4 a2 a3 a4 c2 hag hpre' hlv ((jZ hw h10).app2) hp
  ·cases h
 ·cases h
def VC(x:List F×F):Prop:=∀ρ,ar ρ x.1→x.2.holds ρ
theorem ab.nil:ab []:=fun x h=>by cases h
theorem ab.cons{x:List F×F}{l:dU}(h:VC x)(hl:ab l):ab (x::l):=fun y hy=>by
 cases hy with
 |head=>exact h
 |tail _ hy=>exact hl y hy
theorem ve(ρ:ap):ar ρ []↔True:=⟨fun _=>trivial,fun _=>aj ρ⟩
theorem aae{ρ:ap}{a b:BE}:(F.be (.eqb a b)).holds ρ↔((F.be a).holds ρ↔(F.be b).holds ρ):=by
 simp only[F.holds,BE.den];cases a.den ρ<;>cases b.den ρ<;>simp
theorem aaf{ρ:ap}{v:Nat}:(F.be (.var v)).holds ρ↔ρ.b v=true:=Iff.rfl
theorem aag{ρ:ap}{c:BE}{f:F}:(F.imp c f).holds ρ↔((F.be c).holds ρ→f.holds ρ):=Iff.rfl
theorem tz{ρ:ap}{r:Nat}{is:List IE}{ls:List LE}:(F.rel r is ls).holds ρ↔bF r (is.map (IE.den ρ)) (ls.map (LE.den ρ)):=Iff.rfl
theorem Nh(x y:Int):mxI x y=max x y:=by unfold mxI;split<;>omega
theorem Ni(x y:Int):mnI x y=min x y:=by unfold mnI;split<;>omega
theorem Xz{ρ:ap}{c:BE}{α:Type}(x y:α):(if c.den ρ then x else y)=@ite α ((F.be c).holds ρ) (inferInstanceAs (Decidable (c.den ρ=true))) x y:=rfl
end
section
variable [cg]
def HS(o:Obj):Prop:=(∃cs e f,o=.cells cs e f)∨∃es clk,o=.map es clk
theorem nw.cm{w:World}{e:TypeId}{ks:List IntKind}{len:Int}{y:Value}(h:nw w e ks len y){b:Nat}(hb:sx e y b):∃o,w.heap[b]? =some o∧HS o:=by
 obtain⟨cs,f,z,h⟩:=h.get hb
 exact⟨_,h,.inl ⟨_,_,_,rfl⟩⟩
theorem lay.cm{e:TypeId}{w:World}{b:Nat}{cs:Array Value}(h:lay e w b cs):∃o,w.heap[b]? =Option.some o∧HS o:=by
 rcases h with h|⟨_,f,z,h⟩<;>exact⟨_,h,.inl ⟨_,_,_,rfl⟩⟩
theorem am.a83{ρ:ap}{id:Nat}{r:am}{w:World}(h:r.holds ρ id w){b:Nat}(hb:r.owns ρ id b):∃o,w.heap[b]? =some o∧HS o:=by
 cases r with
 |cells e l=>simp only[am.holds,am.owns]at*;rw[hb];exact⟨_,h,.inl ⟨_,_,_,rfl⟩⟩
 |lst e ks n le=>simp only[am.holds,am.owns]at*;obtain⟨cs,c,_,h,_⟩:=h.2 hb.1;rw[hb.2];exact h.cm
 |any e z=>simp only[am.holds,am.owns]at*;obtain⟨cs,h,_⟩:=h;rw[hb];exact⟨_,h,.inl ⟨_,_,_,rfl⟩⟩
 |mp l=>cases l<;>(simp only[am.holds,am.owns]at*;obtain⟨es,clk,h,_⟩:=h;rw[hb];exact⟨_,h,.inr ⟨_,_,rfl⟩⟩)
 |mi l=>simp only[am.holds,am.owns]at*;obtain⟨es,clk,h,_⟩:=h;rw[hb];exact⟨_,h,.inr ⟨_,_,rfl⟩⟩
 |glob e g k l=>simp only[am.holds,am.owns]at*;obtain⟨_,t,f,h⟩:=h;rw[hb];exact⟨_,h,.inl ⟨_,_,_,rfl⟩⟩
 |sls e ks n le=>
  simp only[am.holds,am.owns]at*
  obtain⟨i,hi,hb⟩:=hb
  exact(h i hi).cm hb
 |fam e ks n le=>
  simp only[am.holds,am.owns]at*
  obtain⟨i,hi,rfl⟩:=hb
  obtain⟨cs,hc,_⟩:=h.1 i hi
  exact⟨_,hc,.inl ⟨_,_,_,rfl⟩⟩
theorem eB{r:Loop}:¬HS (.loop r):=by rintro(⟨_,_,_,h⟩|⟨_,_,h⟩)<;>cases h
theorem nR{r:Option (List Deferred)}:¬HS (.deferred r):=by rintro(⟨_,_,_,h⟩|⟨_,_,h⟩)<;>cases h
theorem HD.noCM{C:bp}{ρ:ap}{L:af}{w:World}(H:HD C ρ L w){l:Nat}{o:Obj}(hl:w.heap[l]? =some o)(hc:¬HS o){id:Nat}{p:Bool}{r:am}(h:ai (.h id) L=some (.row p r)){b:Nat}(hb:r.owns ρ id b):b≠l:=by
 rintro rfl
 obtain⟨o',h1,h2⟩:=am.a83 (H.rows id p r h) hb
 rw[hl]at h1;obtain rfl:=Option.some.inj h1;exact hc h2
theorem HD.move{C:bp}{ρ:ap}{L:af}{A B:World}(H:HD C ρ L A)(hos:B.os=A.os)(ht:B.tape=A.tape)(ho:B.output=A.output)(hsz:A.heap.size≤B.heap.size)
 (hk:∀b,C.keep b→B.heap[b]? =A.heap[b]?) (hr:∀id o r,ai (.h id) L=some (.row o r)→∀b,r.owns ρ id b→B.heap[b]? =A.heap[b]?):HD C ρ L B:=
 ⟨fun id o r hl=>am.gy (H.rows id o r hl) (hr id o r hl),H.own,H.ro,H.dis,H.sep,
  ⟨hos.trans H.fr.os,ht.trans H.fr.tape,ho.trans H.fr.output,Nat.le_trans H.fr.size hsz,fun b hb=>⟨(H.fr.keep b hb).1,(hk b hb).trans (H.fr.keep b hb).2⟩,H.fr.shk⟩⟩
theorem HD.putObj{C:bp}{ρ:ap}{L:af}{A:World}(H:HD C ρ L A){l:Nat}{o:Obj}(o':Obj)(hl:A.heap[l]? =some o)(hc:¬HS o)(hk:¬C.keep l):HD C ρ L (A.putObj l o'):=
 H.move rfl rfl rfl (by simp) (fun b hb=>World.putObj_heap_other (fun e=>hk (e▸hb))) (fun id p r h b hb=>World.putObj_heap_other (H.noCM hl hc h hb))
theorem qD{A:World}{o:Obj}{b:Nat}(h:b<A.heap.size):(A.alloc o).heap[b]? =A.heap[b]? :=by
 simp only[World.alloc,Array.getElem?_push]
 rw[if_neg (by omega)]
theorem HD.alloc{C:bp}{ρ:ap}{L:af}{A:World}(H:HD C ρ L A)(o:Obj):HD C ρ L (A.alloc o):=
 H.move rfl rfl rfl (by simp) (fun b hb=>qD (H.keep_lt hb)) (fun id p r h b hb=>qD (H.lt h hb))
structure dX (ks:List Nat) (A B:World):Prop where
 os:B.os=A.os
 tape:B.tape=A.tape
 output:B.output=A.output
 size:A.heap.size≤B.heap.size
 same:∀b,b<A.heap.size→b∉ks→B.heap[b]? =A.heap[b]?
theorem dX.refl(ks:List Nat)(A:World):dX ks A A:=⟨rfl,rfl,rfl,Nat.le_refl _,fun _ _ _=>rfl⟩
theorem dX.trans{ks:List Nat}{A B D:World}(h:dX ks A B)(g:dX ks B D):dX ks A D:=
 ⟨g.os.trans h.os,g.tape.trans h.tape,g.output.trans h.output,Nat.le_trans h.size g.size,fun b hb hk=>(g.same b (Nat.lt_of_lt_of_le hb h.size) hk).trans (h.same b hb hk)⟩
theorem HD.only{C:bp}{ρ:ap}{L:af}{A B:World}(H:HD C ρ L A){ks:List Nat}(h:dX ks A B)(hr:∀id o r,ai (.h id) L=some (.row o r)→∀b,r.owns ρ id b→b∉ks)(hk:∀b,b∈ks→¬C.keep b):HD C ρ L B:=
 H.move h.os h.tape h.output h.size (fun b hb=>h.same b (H.keep_lt hb) fun hm=>hk b hm hb) (fun id o r hl b hb=>h.same b (H.lt hl hb) (hr id o r hl b hb))
def CLe(C C':bp):Prop:=∀ρ L w,HD C' ρ L w→HD C ρ L w
theorem CLe.refl(C:bp):CLe C C:=fun _ _ _ h=>h
theorem CLe.trans{A B C:bp}(h:CLe A B)(g:CLe B C):CLe A C:=fun ρ L w x=>h ρ L w (g ρ L w x)
def Yy(C:bp)(w:World)(ks:Nat→Prop):bp:=⟨w,fun b=>C.keep b∨ks b,C.sh⟩
theorem s9{C:bp}{w:World}{ks:Nat→Prop}(hf:Fr C w):CLe C (Yy C w ks):=fun ρ L w' H=>
 ⟨H.rows,fun id r hl b hb hk=>H.own id r hl b hb (.inl hk),fun id r hl b hb=>(H.ro id r hl b hb).imp (fun h=>h) fun hn hk=>hn (.inl hk),H.dis,H.sep,
  ⟨H.fr.os.trans hf.os,H.fr.tape.trans hf.tape,H.fr.output.trans hf.output,Nat.le_trans hf.size H.fr.size,
   fun b hb=>⟨(hf.keep b hb).1,(H.fr.keep b (.inl hb)).2.trans (hf.keep b hb).2⟩,hf.shk⟩⟩
theorem HD.toN{C:bp}{ρ:ap}{L:af}{w:World}(H:HD C ρ L w){ks:Nat→Prop}(hs:∀b,ks b→b<w.heap.size)(hk:∀id o r,ai (.h id) L=some (.row o r)→∀b,r.owns ρ id b→¬ks b):HD (Yy C w ks) ρ L w:=
 ⟨H.rows,fun id r hl b hb h=>h.elim (H.own id r hl b hb) (hk id _ r hl b hb),fun id r hl b hb=>(H.ro id r hl b hb).imp (fun h=>h) fun hn h=>h.elim hn (hk id _ r hl b hb),H.dis,H.sep,
  ⟨rfl,rfl,rfl,Nat.le_refl _,fun b hb=>⟨hb.elim (fun h=>H.keep_lt h) (hs b),rfl⟩,fun b hb=> .inl (H.fr.shk b hb)⟩⟩
theorem HD.noN{C:bp}{ρ:ap}{L:af}{w w0:World}{ks:Nat→Prop}(H:HD (Yy C w0 ks) ρ L w)(hsh:∀b,ks b→¬C.sh b){id:Nat}{o:Bool}{r:am}(hl:ai (.h id) L=some (.row o r)){b:Nat}(hb:r.owns ρ id b):¬ks b:=fun hk=>by
 cases o with
 |true=>exact H.own id r hl b hb (.inr hk)
 |false=>exact(H.ro id r hl b hb).elim (hsh b hk) fun h=>h (.inr hk)
structure Wo where
 own:List Nat
 rd:List Nat
 vcs:List F
 nx:Nat
 s:SV
 fs:List F
 log:af
 fin:List F
abbrev uv:=Nat→List SV→af→Nat→Nat→Option Wo
def Rd(ρ:ap)(H:af)(rd:List Nat)(W:World):Prop:=∀id,id∈rd→∀r,ai (.h id) H=some (.row false r)→r.holds ρ id W
def YOf(ρ:ap)(H:af)(n q:Nat)(r:Wo)(p:Nat)(W:World)(v:Value):Prop:=
 ∀ρx,b7 n ay ρ ρx→ρx.i q=(p:Int)→∃τ,b7 (q+1) r.nx ρx τ∧ar τ r.fs∧v=r.s.den τ∧
  ∀id o w,ai (.h id) r.log=some (.row o w)→o=false∧w.holds τ id W∧∀b,w.owns τ id b→∃id0 r0,id0∈r.rd∧ai (.h id0) H=some (.row false r0)∧r0.owns ρ id0 b
def vj(ρ:ap)(n q:Nat)(r:Wo)(p:Nat):Prop:=∀ρx,b7 n ay ρ ρx→ρx.i q=(p:Int)→ar ρx r.fin
def oD(P:Program)(gf:Nat)(caps:Array Value)(ks:List Nat)(Rdy:World→Prop)(Y:Nat→World→Value→Prop)(Fin:Nat→Prop)(w:World):Prop:=
 ∀(l:Nat) (J:Nat→World→Prop) (Jx:World→Prop),(∀p A B,J p A→dX ks A B→J p B)→(∀A B,Jx A→dX ks A B→Jx B)→(∀p W,J p W→Rdy W)→
  (∀p W v,J p W→Y p W v→YieldAt (FC none) 9 P l #[v] W fun e W'=>(∀b,b∈ks→W'.heap[b]? =W.heap[b]?)∧((e=.returned (.bool true)∧J (p+1) W')∨(e=.returned (.bool false)∧Jx W')))→
  J 0 w→Calls P gf (#[.func (.yield l) #[] #[]]++caps) w fun e W'=>(∃v,e=.returned v)∧((∃p,Fin p∧J p W')∨Jx W')
def Yz(P:Program)(it:uv):Prop:=∀(gf:Nat) (caps:List SV) (H:af) (n q:Nat) (r:Wo),it gf caps H n q=some r→af.avo n ay H=true→n≤q→r.nx≤ay→
 ∀(C:bp) (ρ:ap) (w:World),HD C ρ H w→ar ρ r.vcs→oD P gf (caps.map (SV.den ρ)).toArray (r.own.map ρ.k) (Rd ρ H r.rd) (YOf ρ H n q r) (vj ρ n q r) w
abbrev St:=ap→Br→Act→World→Prop
def HU(base:af)(amb:List F)(S S':St)(code:Act→World→(Exit→Act→World→Prop)→Prop)(n:Nat)(b:Br)(v:dU)(t:T (Ex×Br))(n':Nat):Prop:=
 n≤n'∧n'≤ay∧t.all n' (fun x=>x.2.ws base n')∧
  (ab v→∀ρ a w,ar ρ amb→S ρ b a w→j8 (fun Q=>code a w Q) (fun ρ x e a w=>e=x.1.to∧S' ρ x.2 a w) ρ n n' t)
def FnS(base:af)(amb:List F)(n0:Nat)(S S':St)(code:Act→World→(Exit→Act→World→Prop)→Prop)(k:Nat→Br→nf (Ex×Br)):Prop:=
 ∀(n:Nat) (b:Br) (v:dU) (t:T (Ex×Br)) (n':Nat),k n b=some (v,t,n')→n0≤n→b.ws base n→n≤ay→HU base amb S S' code n b v t n'
theorem qS{base:af}{amb:List F}{n0:Nat}(hamb:F.avos n0 ay amb=true){S S':St}{code1 code2:Act→World→(Exit→Act→World→Prop)→Prop}{k:Nat→Br→nf (Ex×Br)}
 (hk:FnS base amb n0 S' S' code2 k) {n:Nat} (hn0:n0≤n) {b:Br} {x:nf (Ex×Br)} (hx:∀v t n',x=some (v,t,n')→HU base amb S S' code1 n b v t n') {v:dU} {t:T (Ex×Br)} {n':Nat} (h:andThen x k=some (v,t,n')):
 HU base amb S S' (fun a w Q=>code1 a w (Exit.then (fun a' w'=>code2 a' w' Q) Q)) n b v t n':=by
 unfold andThen at h
 split at h
 ·rename_i v1 t1 n1
  split at h
  ·rename_i v2 t2 n2 h2
   simp only[Option.some.injEq,Prod.mk.injEq]at h
   obtain⟨rfl,rfl,rfl⟩:=h
   obtain⟨a1,a2,a3,a4⟩:=hx v1 t1 n1 rfl
   let qq:ap→Ex×Br→Exit→Act→World→Prop:=fun ρ x e a w=>e=x.1.to∧S' ρ x.2 a w
   have key:∀(e:Exit) (a':Act) (w':World) (z:Ex×Br) (m:Nat) (v:dU) (t:T (Ex×Br)) (m':Nat),sV k z m=some (v,t,m')→(n1≤m∧z.2.ws base m)→m≤ay→
    m≤m'∧m'≤ay∧t.all m' (fun x=>x.2.ws base m')∧(ab v→∀ρ,(qq ρ z e a' w'∧ar ρ amb)→j8 (fun Q=>Exit.then (fun a' w'=>code2 a' w' Q) Q e a' w') qq ρ m m' t):=by
    intro e a' w' z m v t m' hr hws hm
    obtain⟨ze,zb⟩:=z
    cases ze with
    |normal=>
     obtain⟨b1,b2,b3,b4⟩:=hk m zb v t m' hr (by omega) hws.2 hm
     exact⟨b1,b2,b3,fun hv ρ hp Q hQ=>by obtain⟨⟨rfl,hb⟩,hA⟩:=hp;exact b4 hv ρ a' w' hA hb Q hQ⟩
    |exit j=>
     simp only[sV,Option.some.injEq,Prod.mk.injEq]at hr
     obtain⟨rfl,rfl,rfl⟩:=hr
     exact⟨Nat.le_refl _,hm,hws.2,fun _ ρ hp Q hQ=>by obtain⟨⟨rfl,hb⟩,hA⟩:=hp;exact hQ _ ρ a' w' (b7.refl _ _ _) ⟨rfl,hb⟩⟩
    |ret=>
     simp only[sV,Option.some.injEq,Prod.mk.injEq]at hr
     obtain⟨rfl,rfl,rfl⟩:=hr
     exact⟨Nat.le_refl _,hm,hws.2,fun _ ρ hp Q hQ=>by obtain⟨⟨rfl,hb⟩,hA⟩:=hp;exact hQ _ ρ a' w' (b7.refl _ _ _) ⟨rfl,hb⟩⟩
   have all1:t1.all n1 (fun z=>n1≤n1∧z.2.ws base n1):=T.bo (Nat.le_refl _) (fun z hz=>⟨Nat.le_refl _,hz⟩) a3
   have base0:=fun(e:Exit) (a':Act) (w':World)=>gE (ws:=fun m (z:Ex×Br)=>n1≤m∧z.2.ws base m) (ws':=fun m (z:Ex×Br)=>z.2.ws base m)
    (fun _ _ z hnm hz=>⟨Nat.le_trans hz.1 hnm,Br.bh hnm hz.2⟩) (fun _ _ z hnm hz=>Br.bh hnm hz) (key e a' w') t1 n1 v2 t2 n2 h2 all1 a2
   obtain⟨g1,g2,g3,_⟩:=base0 .normal ⟨#[],[]⟩ default
   refine⟨by omega,g2,g3,fun hv ρ a w hA hb Q hQ=>?_⟩
   refine a4 hv.app.1 ρ a w hA hb _ fun e ρ' a' w' hagr hp=>?_
   obtain⟨_,_,_,g4⟩:=base0 e a' w'
   have hA':=(aZ hagr (F.aq hn0 a2 hamb)).2 hA
   refine g4 hv.app.2 ρ' (T.bd (fun z hz=>⟨hz,hA'⟩) hp) Q fun e' ρ'' a'' w'' hagr' hp'=>?_
   exact hQ e' ρ'' a'' w'' (hagr.trans hagr' g1 (by omega)) hp'
  ·cases h
 ·cases h
theorem rI.toS{base:af}{nt:Nat}{amb:List F}{n0:Nat}{ι:Type}{ds:ι→List Deferred}{ro:Option Nat}{Cx:ι→bp}{G:ι→Act→World→Prop}{code:Act→World→(Exit→Act→World→Prop)→Prop}{k:Nat→Br→nf (Ex×Br)}
 (h:∀i,@rI _ ⟨ds i,ro⟩ base (Cx i) nt amb n0 code k) (hG:∀i a w a' w',Fr (Cx i) w→Fr (Cx i) w'→G i a w→G i a' w') (i0:ι):
 FnS base amb n0 (fun ρ b a w=>∃i,@uj _ ⟨ds i,ro⟩ (Cx i) nt ρ b a w∧G i a w) (fun ρ b a w=>∃i,@uj _ ⟨ds i,ro⟩ (Cx i) nt ρ b a w∧G i a w) code k:=by
 intro n b v t n' hk hn0 hws hn
 obtain⟨a1,a2,a3,_⟩:=h i0 n b v t n' hk hn0 hws hn
 refine⟨a1,a2,a3,fun hv ρ a w hA hb Q hQ=>?_⟩
 obtain⟨i,hb,hg⟩:=hb
 obtain⟨_,_,_,a4⟩:=h i n b v t n' hk hn0 hws hn
 letI:Fm:=⟨ds i,ro⟩
 refine a4 hv ρ a w hA hb Q fun e ρ' a' w' hagr hp=>hQ e ρ' a' w' hagr (T.bd (fun z hz=>⟨hz.1,i,hz.2,hG i a w a' w' hb.hd.fr hz.2.hd.fr hg⟩) hp)
end
section
variable [cg]
theorem b7.symm{lo hi:Nat}{ρ σ:ap}(h:b7 lo hi ρ σ):b7 lo hi σ ρ:=
 ⟨fun v hv=>(h.i v hv).symm,fun v hv=>(h.b v hv).symm,fun v hv=>(h.k v hv).symm,fun v hv=>(h.f v hv).symm,fun v hv=>(h.l v hv).symm,fun v hv=>(h.x v hv).symm,fun v hv=>(h.y v hv).symm⟩
theorem HD.addRo{C:bp}{ρ:ap}{L M:af}{w:World}(H:HD C ρ L w)
 (hM:∀id o q,ai (.h id) M=some (.row o q)→o=false∧q.holds ρ id w∧∀b,q.owns ρ id b→∃id0 r0,ai (.h id0) L=some (.row false r0)∧r0.owns ρ id0 b):HD C ρ (M++L) w:=by
 have cs:∀id o q,ai (.h id) (M++L)=some (.row o q)→(ai (.h id) M=some (.row o q))∨ai (.h id) L=some (.row o q):=by
  intro id o q h
  rw[cG]at h
  split at h
  ·exact .inl h
  ·exact .inr h
 refine⟨fun id o q h=>?_,fun id q h b hb=>?_,fun id q h b hb=>?_,fun i j r s hi hj b hb hc=>?_,fun i j r s hij hi hj b hb hc=>?_,H.fr⟩
 ·rcases cs _ _ _ h with h|h
  ·exact(hM id o q h).2.1
  ·exact H.rows id o q h
 ·rcases cs _ _ _ h with h|h
  ·cases(hM id true q h).1
  ·exact H.own id q h b hb
 ·rcases cs _ _ _ h with h|h
  ·obtain⟨id0,r0,h1,h2⟩:=(hM id false q h).2.2 b hb
   exact H.ro id0 r0 h1 b h2
  ·exact H.ro id q h b hb
 ·rcases cs _ _ _ hj with hj|hj
  ·cases(hM j true s hj).1
  ·rcases cs _ _ _ hi with hi|hi
   ·obtain⟨id0,r0,h1,h2⟩:=(hM i false r hi).2.2 b hb
    exact H.dis id0 j r0 s h1 hj b h2 hc
   ·exact H.dis i j r s hi hj b hb hc
 ·rcases cs _ _ _ hj with hj|hj
  ·cases(hM j true s hj).1
  ·rcases cs _ _ _ hi with hi|hi
   ·cases(hM i true r hi).1
   ·exact H.sep i j r s hij hi hj b hb hc
def tN(an:rL)(its:List Item)(n N:Nat)(R0:af)(hj:Br)(amb:List F)(z:Ex×Br)(m:Nat):nf (Ex×Br):=
 match z.1 with
 |.normal=>
  bif !(Nat.ble (m+its.length+1) N)then none else
  match CA its m z.2 with
  |none=>none
  |some (b2,eqs2)=>
   let r:c8:=⟨m,n,its.length+1⟩
   bif gH r b2.H hj.H hj.H&&an.inv.all (pV.eqr r)then
    some (an.inv.map (fun x=>(.be (.cmp .eql (.var (m+its.length)) (.add (.var (n+its.length)) (.lit 1)))::(eqs2++(z.2.g++(z.2.pc++amb))),x.at m)),.no,m+its.length+1)
   else none
 |.exit j=>some ([],.lf (.exit j,{z.2 with R:=R0}),m)
 |.ret=>some ([],.lf (.ret,{z.2 with R:=R0}),m)
def nu(own:List Nat):af:=own.map fun id=>(.h id,.gone)
def vk(H:af)(id:Nat):Option (Bool×am):=match ai (.h id) H with
 |some (.row o r)=>some (o,r)
 |_=>none
def fw:T (Ex×Br)→Bool
 |.lf (.normal,_)=>true
 |.lf _=>false
 |.nd _ a b=>fw a&&fw b
 |.or a b=>fw a&&fw b
 |.no=>true
def YA(P:Program)(call:aU)(dr:eK)(lp:dG)(it:uv)(nt:Nat)(amb:List F)(an:rL)(g:Operand)(ps:Array Tmp)(asg body:Code)(n:Nat)(b:Br):nf (Ex×Br):=
 match ep b.R (.lit true) g,ps.toList with
 |some (.fn (.func gf) [] caps),[p]=>
  let its:=an.items b
  let d:=its.length
  let N:=n+cX (1+an.w)
  match it gf caps b.H n (n+d),CA its n b with
  |some r,some (b1,eqs)=>
   let inv:=an.inv.map (pV.at n)
   let hj:Br:={g:=inv++b.g,pc:=b.pc,R:=b.R,H:=nu r.own++b1.H,pre:=nu r.own++b1.pre}
   let hb:Br:={hj with g:=r.fs++hj.g,R:=(.r p,.reg (.lit true) r.s)::b.R,H:=r.log++hj.H,pre:=r.log++hj.pre}
   let c1:=Nat.ble N ay&&(Nat.ble (n+d+1) r.nx&&(Nat.ble r.nx N&&(Nat.blt p nt&&(lI P gf&&(F.avos (n+d+1) ay inv&&F.avos (n+d+1) ay r.fin)))))
   let c2:=r.s.avo r.nx ay&&(F.avos r.nx ay r.fs&&(af.avo r.nx ay r.log&&jN (n+d+1) r.log))
   let c3:=r.own.all fun id=>(match vk b.H id,vk b1.H id with|some (true,.cells _ _),some (true,.cells _ _)=>true|_,_=>false)&&Nat.blt id n
   let c4:=r.rd.all fun id=>match vk b.H id,vk hj.H id with|some (false,r0),some (false,r1)=>r1.eqr ⟨0,0,0⟩ r0|_,_=>false
   bif !(c1&&(c2&&(c3&&c4)))then none else
   match fk P call dr lp nt amb asg r.nx hb with
   |some (v0,t0,n0)=>bif !(fw t0)then none else
    match andThen (some (v0,t0,n0)) (fk P call dr lp nt amb body)with
    |some (v,t,n2)=>
     match gR (tN an its n N b.R hj amb) t n2 with
     |some (v2,t2,n3)=>bif Nat.ble n3 N then some ((r.vcs.map fun f=>(b.g++(b.pc++amb),f))++(inv.map (fun f=>(.be (.cmp .eql (.var (n+d)) (.lit 0))::(eqs++(b.g++(b.pc++amb))),f))++(v++v2)),.or (.lf (.normal,{hj with g:=r.fin++hj.g})) t2,N)else none
     |none=>none
    |none=>none
   |none=>none
  |_,_=>none
 |_,_=>none
end
section
variable [cg]
def gY(D:Nat):Deferred:={target:=.collected D,args:=#[]}
structure Mk (C:bp) where
 Ds:List Nat
 C':bp
 le:CLe C C'
 nd:Ds.Nodup
 nk:∀D,D∈Ds→¬C.keep D
 ok:∀D,D∈Ds→C'.keep D∧C'.w0.heap[D]? =some (.deferred (some []))
def TS(C:bp)(nt:Nat):St:=fun ρ b a w=>∃i:Mk C,@uj _ ⟨i.Ds.map gY,none⟩ i.C' nt ρ b a w∧True
def YB(ks:List Nat)(ρ:ap)(L:af):Prop:=∀id o r,ai (.h id) L=some (.row o r)→∀b,r.owns ρ id b→b∉ks
def RG(C':bp)(ks:List Nat)(D l:Nat)(Wy:World)(lo:Obj)(W0:World)(a:Act)(w:World):Prop:=
 Fr C' W0∧w.heap[l]? =some lo∧w.heap[D]? =some (.deferred (some []))∧∀b,b∈ks→w.heap[b]? =Wy.heap[b]?
def Cb(C':bp)(ks:List Nat)(D l:Nat)(W0:World):bp:=Yy C' W0 fun b=>b∈ks∨b=D∨b=l
def RS(C':bp)(ks:List Nat)(D l:Nat)(Wy:World)(lo:Obj)(nt:Nat):St:=fun ρ b a w=>∃W0,@uj _ ⟨[],some l⟩ (Cb C' ks D l W0) nt ρ b a w∧RG C' ks D l Wy lo W0 a w
theorem a84{C':bp}{ks:List Nat}{D l:Nat}{Wy:World}{lo:Obj}{W0:World}{a a':Act}{w w':World}(h:Fr (Cb C' ks D l W0) w)(h':Fr (Cb C' ks D l W0) w')(g:RG C' ks D l Wy lo W0 a w):RG C' ks D l Wy lo W0 a' w':=by
 have same:∀b,(b∈ks∨b=D∨b=l)→w'.heap[b]? =w.heap[b]? :=fun b hb=>(h'.keep b (.inr hb)).2.trans (h.keep b (.inr hb)).2.symm
 exact⟨g.1,(same l (.inr (.inr rfl))).trans g.2.1,(same D (.inr (.inl rfl))).trans g.2.2.1,fun b hb=>(same b (.inl hb)).trans (g.2.2.2 b hb)⟩
theorem Oc{P:Program}{call:aU}(hcall:bI P call)(hN:iS P){dr:eK}(hdr:∀F:Fm,@rJ _ F P dr){lp:dG}(hlp:∀F:Fm,@rK _ F P lp){nt:Nat}{amb:List F}{base:af}{n0:Nat}(hamb:F.avos n0 ay amb=true)
 (C':bp) (ks:List Nat) (D l:Nat) (Wy:World) (lo:Obj) (c:Code):FnS base amb n0 (RS C' ks D l Wy lo nt) (RS C' ks D l Wy lo nt) (fun a w Q=>c.wpIn (FC (some l)) 9 P Q a w) (fk P call dr lp nt amb c):=
 rI.toS (ds:=fun _=>[]) (Cx:=fun W0=>Cb C' ks D l W0) (G:=fun W0=>RG C' ks D l Wy lo W0) (fun W0=>@wT _ ⟨[],some l⟩ P call hcall hN dr (hdr _) lp (hlp _) nt amb base (Cb C' ks D l W0) n0 hamb c)
  (fun W0 a w a' w' h h' g=>a84 h h' g) default
theorem eX{ρ:ap}{e:Exit}{p:Ex×Br→Prop}:∀{t:T (Ex×Br)},fw t=true→(t.post ρ fun z=>e=z.1.to∧p z)→e=.normal
 |.lf (.normal,_),_,h=>h.1
 |.lf (.exit _,_),h,_=>by cases h
 |.lf (.ret,_),h,_=>by cases h
 |.nd c a b,h,hp=>by
  simp only[fw,Bool.and_eq_true]at h
  simp only[T.post]at hp
  split at hp
  ·exact eX h.1 hp
  ·exact eX h.2 hp
 |.or a b,h,hp=>by
  simp only[fw,Bool.and_eq_true]at h
  exact hp.elim (eX h.1) (eX h.2)
 |.no,_,hp=>hp.elim
def afw(P:Program)(l:Nat)(asg:Code)(a:Act)(w:World)(Q:Exit→Act→World→Prop):Prop:=
 asg.wpIn (FC (some l)) 9 P (Exit.then (fun a1 w1=>∃w2,(Instr.beginRound l).run P w1=.ok () w2∧Q .normal a1 w2) (fun _ _ _=>False)) a w
theorem adf{P:Program}{C':bp}{ks:List Nat}{D l:Nat}{Wy:World}{rec:Loop}(hrec:rec.state=.ready)(hks:∀b,b∈ks→¬C'.keep b)(hD:¬C'.keep D)(hl:¬C'.keep l)(hDl:D≠l)(hkl:l∉ks)
 {base:af} {amb:List F} {asg:Code} {nt n n':Nat} {b:Br} {v:dU} {t:T (Ex×Br)} (hn:fw t=true)
 (h:HU base amb (RS C' ks D l Wy (.loop rec) nt) (RS C' ks D l Wy (.loop rec) nt) (fun a w Q=>asg.wpIn (FC (some l)) 9 P Q a w) n b v t n'):
 HU base amb (RS C' ks D l Wy (.loop rec) nt) (RS C' ks D l Wy (.loop {rec with state:=.busy}) nt) (afw P l asg) n b v t n':=by
 obtain⟨h1,h2,h3,h4⟩:=h
 refine⟨h1,h2,h3,fun hv ρ a w hA hb Q hQ=>?_⟩
 refine h4 hv ρ a w hA hb _ fun e ρ' a' w' hagr hp=>?_
 obtain rfl:=eX hn hp
 have hl0:w'.heap[l]? =some (.loop rec):=by
  have:∀t:T (Ex×Br),(t.post ρ' fun x=>Exit.normal=x.1.to∧RS C' ks D l Wy (.loop rec) nt ρ' x.2 a' w')→w'.heap[l]? =some (.loop rec):=by
   intro t
   induction t with
   |lf z=>intro hz;obtain⟨_,W0,_,g⟩:=hz;exact g.2.1
   |nd c x y ihx ihy=>intro hz;simp only[T.post]at hz;split at hz;exact ihx hz;exact ihy hz
   |or x y ihx ihy=>exact fun hz=>hz.elim ihx ihy
   |no=>exact fun hz=>hz.elim
  exact this t hp
 refine⟨_,run_beginRound hl0 hrec,hQ .normal ρ' a' _ hagr (T.bd (fun z hz=>?_) hp)⟩
 obtain⟨hz0,W0,hbr,hg⟩:=hz
 letI:Fm:=⟨[],some l⟩
 have hsh:∀b,(b∈ks∨b=D∨b=l)→¬C'.sh b:=fun b hb hs=>by
  have hk:=hg.1.shk b hs
  rcases hb with hb|rfl|rfl
  ·exact hks b hb hk
  ·exact hD hk
  ·exact hl hk
 have hlt:l<w'.heap.size:=aw hl0
 have hd1:HD C' ρ' z.2.H w':=s9 hg.1 _ _ _ hbr.hd
 have hd2:HD C' ρ' z.2.H (w'.putObj l (.loop {rec with state:=.busy})):=hd1.putObj _ hl0 eB hl
 refine⟨hz0,w'.putObj l (.loop {rec with state:=.busy}),⟨hbr.g,hbr.pc,hd2.toN (fun b hb=>?_) (fun id o r hlk b hb=>hbr.hd.noN hsh hlk hb),hbr.rd⟩,hd2.fr,World.putObj_heap_same hlt,?_,fun b hb=>?_⟩
 ·have:=(hbr.hd.fr.keep b (.inr hb)).1
  rw[World.putObj_size]
  exact Nat.lt_of_lt_of_le this hbr.hd.fr.size
 ·exact(World.putObj_heap_other hDl).trans hg.2.2.1
 ·exact(World.putObj_heap_other (fun e=>hkl (by rw[←e];exact hb))).trans (hg.2.2.2 b hb)
end
section
variable [cg]
theorem nv{own:List Nat}{L:af}{id:Nat}{o:Bool}{r:am}(h:ai (.h id) (nu own++L)=some (.row o r)):id∉own∧ai (.h id) L=some (.row o r):=by
 induction own with
 |nil=>exact⟨by simp,h⟩
 |cons x own ih=>
  simp only[nu,List.map_cons,List.cons_append,ak]at h
  by_cases hx:aO.h x=aO.h id
  ·rw[if_pos hx]at h;cases h
  ·rw[if_neg hx]at h
   obtain⟨h1,h2⟩:=ih h
   refine⟨?_,h2⟩
   rw[List.mem_cons]
   rintro(rfl|hm)
   ·exact hx rfl
   ·exact h1 hm
theorem Px{own:List Nat}{n:Nat}(h:∀id,id∈own→id<n):af.avo n ay (nu own)=true:=by
 induction own with
 |nil=>rfl
 |cons x own ih=>
  simp only[nu,List.map_cons,af.avo,aO.avo,aY.avo,Bool.and_true,Bool.and_eq_true]
  exact⟨jR (h x (.head _)),ih fun id hid=>h id (.tail _ hid)⟩
def JOf(C':bp)(ks:List Nat)(D l:Nat)(rec:Loop)(n N q:Nat)(ρ0:ap)(hj:Br)(p:Nat)(W:World):Prop:=
 ∃σ,b7 n N ρ0 σ∧σ.i q=(p:Int)∧ar σ hj.g∧ar σ hj.pc∧HD C' σ hj.H W∧YB ks σ hj.H∧W.heap[l]? =some (.loop rec)∧W.heap[D]? =some (.deferred (some []))
def afx(e:Exit)(c:Code):Prop:=(e=.ret∧c=.ret)∨∃j,e=.exit j∧c=.exit j
def YC(C':bp)(ks:List Nat)(D l:Nat)(rec:Loop)(n N:Nat)(ρ0:ap)(R0:af)(t:T (Ex×Br))(W:World):Prop:=
 ∃σ e c,afx e c∧b7 n N ρ0 σ∧W.heap[l]? =some (.loop {rec with state:=.done,pending:=some c})∧W.heap[D]? =some (.deferred (some []))∧
  t.post σ fun z=>e=z.1.to∧ar σ z.2.g∧ar σ z.2.pc∧HD C' σ z.2.H W∧YB ks σ z.2.H∧z.2.R=R0
theorem JOf.only{C':bp}{ks:List Nat}{D l:Nat}{rec:Loop}{n N q:Nat}{ρ0:ap}{hj:Br}{p:Nat}(hk:∀b,b∈ks→¬C'.keep b)(hD:D∉ks)(hl:l∉ks){A B:World}(h:JOf C' ks D l rec n N q ρ0 hj p A)(g:dX ks A B):JOf C' ks D l rec n N q ρ0 hj p B:=by
 obtain⟨σ,h1,h0,h2,h3,h4,h5,h6,h7⟩:=h
 exact⟨σ,h1,h0,h2,h3,h4.only g h5 hk,h5,(g.same l (aw h6) hl).trans h6,(g.same D (aw h7) hD).trans h7⟩
theorem YC.only{C':bp}{ks:List Nat}{D l:Nat}{rec:Loop}{n N:Nat}{ρ0:ap}{R0:af}{t:T (Ex×Br)}(hk:∀b,b∈ks→¬C'.keep b)(hD:D∉ks)(hl:l∉ks){A B:World}(h:YC C' ks D l rec n N ρ0 R0 t A)(g:dX ks A B):YC C' ks D l rec n N ρ0 R0 t B:=by
 obtain⟨σ,e,c,h0,h1,h6,h7,hp⟩:=h
 exact⟨σ,e,c,h0,h1,(g.same l (aw h6) hl).trans h6,(g.same D (aw h7) hD).trans h7,T.bd (fun z hz=>⟨hz.1,hz.2.1,hz.2.2.1,hz.2.2.2.1.only g hz.2.2.2.2.1 hk,hz.2.2.2.2⟩) hp⟩
theorem a85{P:Program}{C':bp}{ks:List Nat}{D l:Nat}{Wy:World}{rec:Loop}(hks:∀b,b∈ks→¬C'.keep b)(hD:¬C'.keep D)(hl:¬C'.keep l)(hDl:D≠l)(hkl:l∉ks)(hrec:rec.state=.ready)(hpe:rec.pending=none)
 {an:rL} {its:List Item} {n N:Nat} {R0:af} {hj:Br} {amb:List F} {base:af} {n2 nt:Nat} {ρ0:ap} {b0:Br} {p:Nat} (hnn:n+its.length+1≤n2) (hNB:N≤ay) (hamb:F.avos n ay amb=true) (hR0:af.avo n ay R0=true)
 (hjg:hj.g=an.inv.map (pV.at n)++b0.g) (hjp:hj.pc=b0.pc) (hb0g:F.avos n ay b0.g=true) (hb0p:F.avos n ay b0.pc=true):
 ∀(e:Exit) (a':Act) (w':World) (z:Ex×Br) (m:Nat) (v:dU) (t:T (Ex×Br)) (m':Nat),tN an its n N R0 hj amb z m=some (v,t,m')→(n2≤m∧z.2.ws base m)→m≤ay→
  m≤m'∧m'≤ay∧t.all m' (fun x=>x.2.ws base m')∧(ab v→∀ρ,(e=z.1.to∧RS C' ks D l Wy (.loop {rec with state:=.busy}) nt ρ z.2 a' w'∧ar ρ amb∧b7 n N ρ0 ρ∧ar ρ0 b0.g∧ar ρ0 b0.pc∧ρ.i (n+its.length)=(p:Int))→
   j8 (fun Q=>Exit.then (fun a w=>JOf C' ks D l rec n N (n+its.length) ρ0 hj (p+1) (w.putObj l (.loop rec))) Q e a' w')
    (fun ρ x e a w=>e=x.1.to∧ar ρ x.2.g∧ar ρ x.2.pc∧x.2.R=R0∧∃W0,HD (Cb C' ks D l W0) ρ x.2.H w∧RG C' ks D l Wy (.loop {rec with state:=.busy}) W0 a w) ρ m m' t):=by
 intro e a' w' z m v t m' hz hwz hm
 obtain⟨ze,zb⟩:=z
 have hsh:∀W0,Fr C' W0→∀b,(b∈ks∨b=D∨b=l)→¬C'.sh b:=fun W0 hf b hb hs=>by
  have hk:=hf.shk b hs
  rcases hb with hb|rfl|rfl
  ·exact hks b hb hk
  ·exact hD hk
  ·exact hl hk
 cases ze with
 |exit j=>
  simp only[tN,Option.some.injEq,Prod.mk.injEq]at hz
  obtain⟨rfl,rfl,rfl⟩:=hz
  refine⟨Nat.le_refl _,hm,⟨hwz.2.1,hwz.2.2.1,af.ad (by omega) (Nat.le_refl _) _ hR0,hwz.2.2.2.2.1,hwz.2.2.2.2.2⟩,fun _ ρ hp Q hQ=>?_⟩
  obtain⟨rfl,⟨W0,hbs,hg⟩,_⟩:=hp
  letI:Fm:=⟨[],some l⟩
  exact hQ _ ρ a' w' (b7.refl _ _ _) ⟨rfl,hbs.g,hbs.pc,rfl,W0,hbs.hd,hg⟩
 |ret=>
  simp only[tN,Option.some.injEq,Prod.mk.injEq]at hz
  obtain⟨rfl,rfl,rfl⟩:=hz
  refine⟨Nat.le_refl _,hm,⟨hwz.2.1,hwz.2.2.1,af.ad (by omega) (Nat.le_refl _) _ hR0,hwz.2.2.2.2.1,hwz.2.2.2.2.2⟩,fun _ ρ hp Q hQ=>?_⟩
  obtain⟨rfl,⟨W0,hbs,hg⟩,_⟩:=hp
  letI:Fm:=⟨[],some l⟩
  exact hQ _ ρ a' w' (b7.refl _ _ _) ⟨rfl,hbs.g,hbs.pc,rfl,W0,hbs.hd,hg⟩
 |normal=>
  simp only[tN]at hz
  cases hmN:Nat.ble (m+its.length+1) N
  ·rw[hmN]at hz;cases hz
  rw[hmN]at hz
  simp only[Bool.not_true,cond_false]at hz
  have hmN':=Nat.le_of_ble_eq_true hmN
  split at hz
  ·cases hz
  ·rename_i b2 eqs2 hh2
   cases hc2:(gH ⟨m,n,its.length+1⟩ b2.H hj.H hj.H&&an.inv.all (pV.eqr ⟨m,n,its.length+1⟩))
   ·rw[hc2]at hz;cases hz
   rw[hc2]at hz
   simp only[cond_true,Option.some.injEq,Prod.mk.injEq]at hz
   obtain⟨rfl,rfl,rfl⟩:=hz
   simp only[Bool.and_eq_true]at hc2
   obtain⟨s2,s3⟩:=hc2
   refine⟨by omega,by omega,trivial,fun hv ρ hp Q hQ=>?_⟩
   obtain⟨he,⟨W0,hbs,hg⟩,hA,hag0,hg0,hp0,hpi⟩:=hp
   simp only at he
   subst he
   letI:Fm:=⟨[],some l⟩
   obtain⟨⟨x1,x2⟩,hk2⟩:=oj hh2 hwz.2 (by omega)
   obtain⟨ρ2,hag2,hb2,heq2⟩:=hk2 hbs
   have hws2:Br.ws base m zb:=hwz.2
   let ρ3:=eG ρ2 (m+its.length) ((p:Int)+1)
   have hag23:b7 (m+its.length) (m+its.length+1) ρ2 ρ3:=dT _ _ _
   have hag3:b7 m (m+its.length+1) ρ ρ3:=(hag2.mono (Nat.le_refl _) (by omega)).trans (hag23.mono (by omega) (Nat.le_refl _)) (Nat.le_refl _) (Nat.le_refl _)
   have hb3:=hb2.agr x1 hag23 (by omega)
   have hΓ:ar ρ3 (.be (.cmp .eql (.var (m+its.length)) (.add (.var (n+its.length)) (.lit 1)))::(eqs2++(zb.g++(zb.pc++amb)))):=by
    have hb3':=hbs.agr hws2 hag3 (by omega)
    refine aa.2 ⟨?_,aA.2 ⟨(aZ hag23 (F.aq (Nat.le_refl _) (by omega) x2)).2 heq2,aA.2 ⟨hb3'.g,aA.2 ⟨hb3'.pc,(aZ hag3 (F.aq (by omega) (by omega) hamb)).2 hA⟩⟩⟩⟩
    have e1:ρ3.i (m+its.length)=(p:Int)+1:=by simp[ρ3,eG]
    have e2:ρ3.i (n+its.length)=(p:Int):=by rw[hag3.i _ (by omega)];exact hpi
    simp only[F.holds,BE.den,bv,IE.den,e1,e2]
    simp
   have hinv:∀x,x∈an.inv→(x.at m).holds ρ3:=fun x hx=>hv (_,x.at m) (List.mem_map.2 ⟨x,hx,rfl⟩) ρ3 hΓ
   let r:c8:=⟨m,n,its.length+1⟩
   have hagσ:b7 n N ρ0 (r.env ρ3):=by
    have h1:b7 n N ρ0 ρ3:=hag0.trans (hag3.mono (by omega) (by omega)) (Nat.le_refl _) (Nat.le_refl _)
    exact h1.trans ((r.N2 ρ3).mono (Nat.le_refl _) (by show n+(its.length+1)≤N;omega)) (Nat.le_refl _) (Nat.le_refl _)
   have hq:(r.env ρ3).i (n+its.length)=((p+1:Nat):Int):=by
    show ρ3.i (r.back (n+its.length))=_
    have:r.back (n+its.length)=m+its.length:=by
     unfold c8.back;rw[if_pos ⟨by show n≤n+its.length;omega,by show n+its.length<n+(its.length+1);omega⟩]
     show m+(n+its.length-n)=_;omega
    rw[this]
    simp[ρ3,eG]
   have hdB:HD (Cb C' ks D l W0) (r.env ρ3) hj.H w':=uZ s2 hb3.hd
   have hdC:HD C' (r.env ρ3) hj.H w':=s9 hg.1 _ _ _ hdB
   have hlt:l<w'.heap.size:=aw hg.2.1
   show JOf C' ks D l rec n N (n+its.length) ρ0 hj (p+1) (w'.putObj l (.loop rec))
   refine⟨r.env ρ3,hagσ,hq,?_,?_,hdC.putObj _ hg.2.1 eB hl,fun id o q hq b hb hk=>hdB.noN (hsh W0 hg.1) hq hb (.inl hk),World.putObj_heap_same hlt,(World.putObj_heap_other hDl).trans hg.2.2.1⟩
   ·rw[hjg]
    refine aA.2 ⟨fun f hf=>?_,(aZ hagσ (F.aq (Nat.le_refl _) hNB hb0g)).2 hg0⟩
    obtain⟨x,hx,rfl⟩:=List.mem_map.1 hf
    exact pV.gg (r:=r) (List.all_eq_true.1 s3 x hx) (hinv x hx)
   ·rw[hjp]
    exact(aZ hagσ (F.aq (Nat.le_refl _) hNB hb0p)).2 hp0
end
section
variable [cg]
theorem km{H:af}{id:Nat}{o:Bool}{r:am}(h:vk H id=some (o,r)):ai (.h id) H=some (.row o r):=by
 unfold vk at h
 split at h
 ·rename_i o' r' hl;simp only[Option.some.injEq,Prod.mk.injEq]at h;obtain⟨rfl,rfl⟩:=h;exact hl
 ·cases h
theorem tO(ρ:ap):(⟨0,0,0⟩:c8).env ρ=ρ:=by
 have h:∀v,(⟨0,0,0⟩:c8).back v=v:=by intro v;unfold c8.back;rw[if_neg];simp
 simp only[c8.env,h]
theorem HV(v:Nat):(⟨0,0,0⟩:c8).v v v=true:=by
 unfold c8.v
 have h:Nat.blt v (0+0)=false:=by cases hh:Nat.blt v (0+0);rfl;exact absurd (Nat.le_of_ble_eq_true hh) (by omega)
 have h2:Nat.ble (0+0) v=true:=Nat.ble_eq_true_of_le (by omega)
 simp only[h,Bool.and_false,cond_false,Nat.beq_refl,h2,Bool.or_true,Bool.and_self]
theorem T.dY{α:Type}{ρ:ap}{q:α→Prop}{p:Prop}(h:∀z,q z→p):∀{t:T α},t.post ρ q→p
 |.lf z,hz=>h z hz
 |.nd c a b,hz=>by
  simp only[T.post]at hz
  split at hz
  ·exact T.dY h hz
  ·exact T.dY h hz
 |.or a b,hz=>hz.elim (T.dY h) (T.dY h)
 |.no,hz=>hz.elim
set_option maxHeartbeats 1000000 in
theorem YD{P:Program}{call:aU}(hcall:bI P call)(hN:iS P){dr:eK}(hdr:∀F:Fm,@rJ _ F P dr){lp:dG}(hlp:∀F:Fm,@rK _ F P lp){it:uv}(hit:Yz P it){nt:Nat}{amb:List F}{base:af}(C:bp){n0:Nat}(hamb:F.avos n0 ay amb=true)
 (an:rL) (g:Operand) (ps:Array Tmp) (asg body:Code):
 FnS base amb n0 (TS C nt) (TS C nt) (fun a w Q=>(Code.rangeFunc g ps asg body).wpIn (FC none) 9 P Q a w) (YA P call dr lp it nt amb an g ps asg body):=by
 intro n b v t n' h hn0 hws hn
 unfold YA at h
 split at h
 rotate_left
 ·cases h
 rename_i gf caps p hg hps
 simp only at h
 generalize hits:an.items b=its at*
 split at h
 rotate_left
 ·cases h
 rename_i r b1 eqs hir hhav
 generalize hc:((Nat.ble (n+cX (1+an.w)) ay&&(Nat.ble (n+its.length+1) r.nx&&(Nat.ble r.nx (n+cX (1+an.w))&&(Nat.blt p nt&&(lI P gf&&(F.avos (n+its.length+1) ay (an.inv.map (pV.at n))&&F.avos (n+its.length+1) ay r.fin))))))&&_)=cc at h
 cases cc with
 |false=>cases h
 |true=>
  simp only[Bool.not_true,cond_false]at h
  simp only[Bool.and_eq_true]at hc
  obtain⟨⟨k1,k2,k3,k4,k5,k6,k9⟩,⟨s4,s5,s6,s7⟩,k7,k8⟩:=hc
  have hNB:=Nat.le_of_ble_eq_true k1
  have hdx:=Nat.le_of_ble_eq_true k2
  have hxN:=Nat.le_of_ble_eq_true k3
  have hpn:p<nt:=Nat.le_of_ble_eq_true k4
  split at h
  rotate_left
  ·cases h
  rename_i v0 t0 n1 hasg
  cases hnorm:fw t0
  ·rw[hnorm]at h;cases h
  rw[hnorm]at h
  simp only[Bool.not_true,cond_false]at h
  split at h
  rotate_left
  ·cases h
  rename_i v1 t1 n2 hbody
  split at h
  rotate_left
  ·cases h
  rename_i v2 t2 n3 hbd
  cases hle3:Nat.ble n3 (n+cX (1+an.w))
  ·rw[hle3]at h;cases h
  rw[hle3]at h
  simp only[cond_true,Option.some.injEq,Prod.mk.injEq]at h
  obtain⟨rfl,rfl,rfl⟩:=h
  have hn3:=Nat.le_of_ble_eq_true hle3
  have hambn:=F.aq hn0 (Nat.le_refl _) hamb
  have hownlt:∀id,id∈r.own→id<n:=fun id hid=>by
   have:=List.all_eq_true.1 k7 id hid
   simp only[Bool.and_eq_true]at this
   exact Nat.le_of_ble_eq_true this.2
  have hownrow:∀id,id∈r.own→(∃e l,ai (.h id) b.H=some (.row true (.cells e l)))∧∃e l,ai (.h id) b1.H=some (.row true (.cells e l)):=fun id hid=>by
   have:=List.all_eq_true.1 k7 id hid
   simp only[Bool.and_eq_true]at this
   have h1:=this.1
   split at h1
   ·rename_i e l e' l' hr hr';exact⟨⟨e,l,km hr⟩,e',l',km hr'⟩
   ·cases h1
  let hj:Br:={g:=an.inv.map (pV.at n)++b.g,pc:=b.pc,R:=b.R,H:=nu r.own++b1.H,pre:=nu r.own++b1.pre}
  let hb:Br:={g:=r.fs++hj.g,pc:=hj.pc,R:=(.r p,.reg (.lit true) r.s)::b.R,H:=r.log++hj.H,pre:=r.log++hj.pre}
  have hjrd:∀id,id∈r.rd→∃q0 q1,ai (.h id) b.H=some (.row false q0)∧ai (.h id) hj.H=some (.row false q1)∧q1.eqr ⟨0,0,0⟩ q0=true:=fun id hid=>by
   have h1:=List.all_eq_true.1 k8 id hid
   split at h1
   ·rename_i q0 q1 e0 e1;exact⟨q0,q1,km e0,km e1,h1⟩
   ·cases h1
  have hav0:=fun(F0:Fm)=>@oj _ F0 its n b b1 eqs hhav base hws (by omega)
  obtain⟨⟨w1,w2⟩,_⟩:=hav0 ⟨[],none⟩
  have w1':=Br.bh (Nat.le_succ (n+its.length)) w1
  have hjws:hj.ws base (n+its.length+1):=
   ⟨F.bt k6 (F.aq (by omega) (Nat.le_refl _) hws.1),F.aq (by omega) (Nat.le_refl _) hws.2.1,af.ad (by omega) (Nat.le_refl _) _ hws.2.2.1,af.cH (Px fun id hid=>by have:=hownlt id hid;omega) w1'.2.2.2.1,by show nu r.own++b1.H=(nu r.own++b1.pre)++base;rw[w1.2.2.2.2,List.append_assoc]⟩
  have hbws:hb.ws base r.nx:=by
   have hj':=Br.bh hdx hjws
   refine⟨F.bt s5 hj'.1,hj'.2.1,?_,af.cH s6 hj'.2.2.2.1,(congrArg (r.log++·) hjws.2.2.2.2).trans (List.append_assoc _ _ _).symm⟩
   show af.avo r.nx ay ((.r p,.reg (.lit true) r.s)::b.R)=true
   simp only[af.avo,aO.avo,aY.avo,BE.avo,s4,Bool.true_and]
   exact af.ad (by omega) (Nat.le_refl _) _ hws.2.2.1
  have pieces:=fun(C':bp) (ks:List Nat) (D l:Nat) (Wy:World) (rec:Loop) (hrec:rec.state=.ready) (hks:∀b,b∈ks→¬C'.keep b) (hD:¬C'.keep D) (hl:¬C'.keep l) (hDl:D≠l) (hkl:l∉ks)=>
   qS (S:=RS C' ks D l Wy (.loop rec) nt) (S':=RS C' ks D l Wy (.loop {rec with state:=.busy}) nt) (code1:=fun a w Q=>afw P l asg a w Q) (code2:=fun a w Q=>body.wpIn (FC (some l)) 9 P Q a w) hamb
    (Oc (nt:=nt) (base:=base) hcall hN hdr hlp hamb C' ks D l Wy (.loop {rec with state:=.busy}) body) (n:=r.nx) (by omega) (b:=hb) (x:=some (v0,t0,n1))
    (fun v t n' hx=>by
      simp only[Option.some.injEq,Prod.mk.injEq]at hx
      obtain⟨rfl,rfl,rfl⟩:=hx
      exact adf hrec hks hD hl hDl hkl hnorm (Oc (nt:=nt) (base:=base) hcall hN hdr hlp hamb C' ks D l Wy (.loop rec) asg r.nx hb _ _ _ hasg (by omega) hbws (by omega))) hbody
  have hall1:=pieces ⟨default,fun _=>False,fun _=>False⟩ [] 0 1 default {state:=.ready,pending:=none,fn:=0,tmps:=#[],params:=#[],assign:=.skip,body:=.skip,defers:=0} rfl (fun _ h=>by cases h) (fun h=>h) (fun h=>h) (by decide) (by simp)
  obtain⟨g1,g2,g3,_⟩:=hall1
  have all1:t1.all n2 (fun z=>n2≤n2∧z.2.ws base n2):=T.bo (Nat.le_refl _) (fun z hz=>⟨Nat.le_refl _,hz⟩) g3
  have backs:=fun(C':bp) (ks:List Nat) (D l:Nat) (Wy:World) (rec:Loop) (hrec:rec.state=.ready) (hpe:rec.pending=none) (hks:∀b,b∈ks→¬C'.keep b) (hD:¬C'.keep D) (hl:¬C'.keep l) (hDl:D≠l) (hkl:l∉ks) (ρ0:ap) (pp:Nat) (e:Exit) (a':Act) (w':World)=>
   gE (ws:=fun m (z:Ex×Br)=>n2≤m∧z.2.ws base m) (ws':=fun m (z:Ex×Br)=>z.2.ws base m) (fun _ _ z hnm hz=>⟨Nat.le_trans hz.1 hnm,Br.bh hnm hz.2⟩) (fun _ _ z hnm hz=>Br.bh hnm hz)
    (a85 (P:=P) (Wy:=Wy) (base:=base) (n2:=n2) (nt:=nt) (ρ0:=ρ0) (b0:=b) (p:=pp) (N:=n+cX (1+an.w)) (R0:=b.R) (hj:=hj) hks hD hl hDl hkl hrec hpe (by omega) hNB hambn hws.2.2.1 rfl rfl hws.1 hws.2.1 e a' w') t1 n2 v2 t2 n3 hbd all1 g2
  obtain⟨q1,q2,q3,_⟩:=backs ⟨default,fun _=>False,fun _=>False⟩ [] 0 1 default {state:=.ready,pending:=none,fn:=0,tmps:=#[],params:=#[],assign:=.skip,body:=.skip,defers:=0} rfl rfl (fun _ h=>by cases h) (fun h=>h) (fun h=>h) (by decide) (by simp) ⟨fun _=>0,fun _=>false,fun _=>0,fun _ _=>0,fun _ _ _=>0,fun _=>undef,fun _ _=>undef⟩ 0 .normal ⟨#[],[]⟩ default
  refine⟨by omega,hNB,⟨Br.bh (b:={hj with g:=r.fin++hj.g}) (n:=n+its.length+1) (by omega) ⟨F.bt k9 hjws.1,hjws.2⟩,T.bo hn3 (fun z hz=>Br.bh hn3 hz) q3⟩,fun hv ρ0 a w hA hb0 Q hQ=>?_⟩
  obtain⟨hva,hv⟩:=hv.app
  obtain⟨hvi,hv⟩:=hv.app
  obtain⟨hv1,hv2⟩:=hv.app
  obtain⟨⟨Ds,C',hle,hnd,hnk,hmk⟩,hbs,_⟩:=hb0
  simp only at hbs
  letI F0:Fm:=⟨Ds.map gY,none⟩
  have hΓ0:ar ρ0 (b.g++(b.pc++amb)):=aA.2 ⟨hbs.g,aA.2 ⟨hbs.pc,hA⟩⟩
  have hrv:ar ρ0 r.vcs:=fun f hf=>hva _ (List.mem_map.2 ⟨f,hf,rfl⟩) ρ0 hΓ0
  obtain⟨_,hk⟩:=hav0 F0
  obtain⟨ρ1',hag1',hb1',heq1'⟩:=hk hbs
  obtain⟨ρ1,hρ1⟩:∃ρ1,eG ρ1' (n+its.length) 0=ρ1:=⟨_,rfl⟩
  have hagc:b7 (n+its.length) (n+its.length+1) ρ1' ρ1:=by rw[←hρ1];exact dT _ _ _
  have hag1:b7 n (n+its.length+1) ρ0 ρ1:=(hag1'.mono (Nat.le_refl _) (by omega)).trans (hagc.mono (by omega) (Nat.le_refl _)) (Nat.le_refl _) (Nat.le_refl _)
  have hq1:ρ1.i (n+its.length)=((0:Nat):Int):=by rw[←hρ1];simp[eG]
  have hb1:=hb1'.agr w1 hagc (by omega)
  have heq1:ar ρ1 eqs:=(aZ hagc (F.aq (Nat.le_refl _) (by omega) w2)).2 heq1'
  have hb0':=hbs.agr hws hag1 (by omega)
  have hΓ1:ar ρ1 (.be (.cmp .eql (.var (n+its.length)) (.lit 0))::(eqs++(b.g++(b.pc++amb)))):=aa.2 ⟨by simp only[F.holds,BE.den,bv,IE.den,hq1];simp,aA.2 ⟨heq1,aA.2 ⟨hb0'.g,aA.2 ⟨hb0'.pc,(aZ hag1 (F.aq (Nat.le_refl _) (by omega) hambn)).2 hA⟩⟩⟩⟩
  have hinv1:ar ρ1 (an.inv.map (pV.at n)):=fun f hf=>hvi _ (List.mem_map.2 ⟨f,hf,rfl⟩) ρ1 hΓ1
  let ks:List Nat:=r.own.map ρ0.k
  have hkslt:∀b,b∈ks→b<w.heap.size∧¬C'.keep b:=fun c hc=>by
   obtain⟨id,hid,rfl⟩:=List.mem_map.1 hc
   obtain⟨⟨e,l,hlk⟩,_⟩:=hownrow id hid
   exact⟨hbs.hd.lt hlk rfl,hbs.hd.own id _ hlk _ rfl⟩
  have hkeepS:∀b,C'.keep b→b<w.heap.size:=fun c hc=>hbs.hd.keep_lt hc
  let D:=w.heap.size
  let l:=w.heap.size+1
  have hDk:¬C'.keep D:=fun h=>by have:=hkeepS _ h;omega
  have hlk:¬C'.keep l:=fun h=>by have:=hkeepS _ h;omega
  have hDl:D≠l:=by show w.heap.size≠w.heap.size+1;omega
  have hlks:l∉ks:=fun h=>by have:=(hkslt _ h).1;show False;omega
  have hDks:D∉ks:=fun h=>by have:=(hkslt _ h).1;show False;omega
  have hksk:∀b,b∈ks→¬C'.keep b:=fun b hb=>(hkslt b hb).2
  have hno1:YB ks ρ1 hj.H:=by
   intro id o q hlo c hc hck
   obtain⟨hnot,hlo'⟩:=nv hlo
   obtain⟨id0,hid0,rfl⟩:=List.mem_map.1 hck
   obtain⟨_,e,ll,hl0⟩:=hownrow id0 hid0
   have hk0:ρ1.k id0=ρ0.k id0:=hag1.k id0 (.inl (hownlt id0 hid0))
   exact hb1.hd.apart (fun e=>hnot (by rw[←e];exact hid0)) hl0 hlo' (.inl rfl) (show ρ0.k id0=ρ1.k id0 from hk0.symm) hc
  have hbaR:∀{lo hi:Nat} {σ τ:ap},b7 lo hi σ τ→n≤lo→hi≤ay→@RD F0 nt σ b.R a→@RD F0 nt τ b.R a:=fun hag h1 h2 h=>h.agr hag (af.ad h1 h2 _ hws.2.2.1)
  have mkTS:∀(σ:ap) (br:Br) (W':World),b7 n (n+cX (1+an.w)) ρ0 σ→ar σ br.g→ar σ br.pc→HD C' σ br.H W'→W'.heap[D]? =some (.deferred (some []))→br.R=b.R→TS C nt σ br {a with defers:=[gY D]++a.defers} W':=by
   intro σ br W' hag hg' hp' hd' hDW hR
   have hrd:=hbaR hag (Nat.le_refl _) hNB hbs.rd
   refine⟨⟨D::Ds,Yy C' W' (fun b=>b=D),hle.trans (s9 hd'.fr),?_,?_,?_⟩,?_,trivial⟩
   ·refine List.nodup_cons.2 ⟨fun h=>?_,hnd⟩
    have:=hkeepS _ (hmk _ h).1
    exact absurd this (Nat.lt_irrefl _)
   ·intro E hE
    rcases List.mem_cons.1 hE with rfl|hE
    ·exact fun h=>absurd ((hle _ _ _ hbs.hd).keep_lt h) (Nat.lt_irrefl _)
    ·exact hnk E hE
   ·intro E hE
    rcases List.mem_cons.1 hE with rfl|hE
    ·exact⟨.inr rfl,hDW⟩
    ·exact⟨.inl (hmk E hE).1,((hd'.fr.keep E (hmk E hE).1).2).trans (hmk E hE).2⟩
   ·refine @uj.mk _ ⟨(D::Ds).map gY,none⟩ _ _ _ _ _ _ hg' hp' (hd'.toN (fun c hc=>by subst hc;exact aw hDW) (fun id o q hq c hc=>hd'.noCM hDW nR hq hc)) (@RD.mk ⟨(D::Ds).map gY,none⟩ _ _ _ _ ?_ hrd.size ?_)
    ·show[gY D]++a.defers=(D::Ds).map gY
     rw[hrd.defers];rfl
    ·intro t c s hl'
     rw[hR]at hl'
     exact hrd.regs t c s hl'
  refine wpIn_rangeFunc ?_
  intro fn hfn
  obtain⟨rec,hrec⟩:∃rec:LoopState→Option Code→Loop,rec=fun st pe=>{state:=st,pending:=pe,fn,tmps:=a.tmps,params:=ps,assign:=asg,body,defers:=D}:=⟨_,rfl⟩
  obtain⟨W1,hW1⟩:∃W1,(w.alloc (.deferred (some []))).alloc (.loop (rec .ready none))=W1:=⟨_,rfl⟩
  have hL1:W1.heap[l]? =some (.loop (rec .ready none)):=by
   rw[←hW1];have:=World.alloc_heap_new (w.alloc (.deferred (some []))) (.loop (rec .ready none));rwa [World.size_alloc]at this
  have hK1:W1.heap[D]? =some (.deferred (some [])):=by
   rw[←hW1];exact(qD (by simp[D])).trans (World.alloc_heap_new w _)
  have hHD1:∀ρ L,HD C' ρ L w→HD C' ρ L W1:=fun ρ L H=>by rw[←hW1];exact(H.alloc _).alloc _
  have hev:a.eval g=.func (.func gf) #[] (caps.map (SV.den ρ0)).toArray:=by
   rw[az hbs.rd (c:=.lit true) rfl hg]
   simp[SV.den,SV.b9]
  have hrs:(rec .ready none).state=.ready:=by rw[hrec]
  have hrp:(rec .ready none).pending=none:=by rw[hrec]
  refine⟨l,[gY D],W1,{target:=.fn (.func gf) (caps.map (SV.den ρ0)).toArray,args:=#[.func (.yield l) #[] #[]]},W1,gf,#[.func (.yield l) #[] #[]]++(caps.map (SV.den ρ0)).toArray,W1,?_,?_,fun _ _=>trivial,?_,fun h=>(by cases h),sT ?_⟩
  ·rw[←hW1,hrec];exact run_enterLoop_outer _ _ _ _ _
  ·simp only[resolve,hev]
   simp[go_sem]
  ·simp[invoke,go_sem,ob hN k5]
  have hit1:=hit gf caps b.H n (n+its.length) r hir hws.2.2.2.1 (by omega) (by omega) C' ρ0 W1 (hHD1 _ _ hbs.hd) hrv
  refine(hit1 l (fun pp W=>JOf C' ks D l (rec .ready none) n (n+cX (1+an.w)) (n+its.length) ρ0 hj pp W) (YC C' ks D l (rec .ready none) n (n+cX (1+an.w)) ρ0 b.R t2) (fun pp A B h g=>h.only hksk hDks hlks g) (fun A B h g=>h.only hksk hDks hlks g) ?_ ?_ ?_).mono ?_
  ·
   rintro pp W ⟨σ,h1,hpi,h2,h3,h4,h5,h6,h7⟩ id hid q hq
   obtain⟨q0,q1,e0,e1,he⟩:=hjrd id hid
   rw[e0]at hq
   obtain⟨_,rfl⟩:=aY.row.inj (Option.some.inj hq)
   have h8:=am.gg he (HV id) (h4.rows id _ q1 e1)
   rw[tO]at h8
   have hav:=af.al hws.2.2.2.1 e0
   exact am.dp h1.symm (bZ (Nat.le_refl _) hNB hav.1) (am.ad (Nat.le_refl _) hNB _ hav.2) h8
  ·
   rintro pp W v ⟨σ,h1,hpi,h2,h3,h4,h5,h6,h7⟩ hYv
   obtain⟨τ,hστ,hfs,hsv',x4⟩:=hYv σ (h1.mono (Nat.le_refl _) hNB) hpi
   have hsv:r.s.den τ=v:=hsv'.symm
   have h0τ:b7 n (n+cX (1+an.w)) ρ0 τ:=h1.trans (hστ.mono (by omega) hxN) (Nat.le_refl _) (Nat.le_refl _)
   have hpτ:τ.i (n+its.length)=(pp:Int):=by rw[hστ.i _ (by omega)];exact hpi
   have hjτ:HD C' τ hj.H W:=h4.agr hστ (af.ad (Nat.le_refl _) (by omega) _ hjws.2.2.2.1)
   have hbτ:HD C' τ hb.H W:=by
    refine hjτ.addRo fun id o q hq=>?_
    obtain⟨y1,y2,y3⟩:=x4 id o q hq
    refine⟨y1,y2,fun c hc=>?_⟩
    obtain⟨id0,r0,z1,z2,z3⟩:=y3 c hc
    obtain⟨q0,q1,e0,e1,he⟩:=hjrd id0 z1
    rw[e0]at z2
    obtain⟨_,rfl⟩:=aY.row.inj (Option.some.inj z2)
    have hav:=af.al hws.2.2.2.1 e0
    have h8:q0.owns τ id0 c:=(am.ce h0τ (bZ (Nat.le_refl _) hNB hav.1) (am.ad (Nat.le_refl _) hNB _ hav.2) c).2 z3
    have h9:=am.eM (ρ:=τ) he (HV id0) c
    rw[tO]at h9
    exact⟨id0,q1,e1,h9.1 h8⟩
   have hAτ:ar τ amb:=(aZ h0τ (F.aq (Nat.le_refl _) hNB hambn)).2 hA
   have hgj:ar τ hj.g:=(aZ hστ (F.aq (Nat.le_refl _) (by omega) hjws.1)).2 h2
   have hpj:ar τ hj.pc:=(aZ hστ (F.aq (Nat.le_refl _) (by omega) hjws.2.1)).2 h3
   have hpsa:ps=#[p]:=by rw[←Array.toArray_toList (xs:=ps),hps]
   have hrdτ:=hbaR h0τ (Nat.le_refl _) hNB hbs.rd
   have hy:=run_yield (P:=P) (args:=#[v]) h6 (by rw[hrec];simp[hpsa])
   rw[hrec]at hy
   rw[hrec]at h6
   refine⟨fn,_,asg,body,hy,roundIn_of_wpIn trivial ?_⟩
   obtain⟨_,_,_,pc4⟩:=pieces C' ks D l W (rec .ready none) hrs hksk hDk hlk hDl hlks
   obtain⟨T0,hT0⟩:∃T0,(Array.zip ps #[v]).foldl (fun tmps (t,a)=>tmps.setIfInBounds t a) a.tmps=T0:=⟨_,rfl⟩
   have hT1:T0=a.tmps.setIfInBounds p v:=by rw[←hT0,hpsa];simp
   have hrdn:@RD ⟨[],some l⟩ nt τ hb.R {tmps:=T0,defers:=[]}:=by
    refine @RD.mk ⟨[],some l⟩ _ _ _ _ rfl (by rw[hT1];simp only[Array.size_setIfInBounds];exact hrdτ.size) fun t c s hl'=>?_
    have hl'':ai (.r t) ((.r p,.reg (.lit true) r.s)::b.R)=some (.reg c s):=hl'
    rw[ak]at hl''
    rw[hT1]
    simp only[Array.getElem?_setIfInBounds]
    by_cases hpt:p=t
    ·subst hpt
     rw[if_pos rfl]at hl''
     obtain⟨rfl,rfl⟩:=aY.reg.inj (Option.some.inj hl'')
     rw[if_pos rfl,if_pos (by rw[hrdτ.size];exact hpn)]
     simp only[BE.den,if_true,hsv]
    ·rw[if_neg (fun e=>hpt (aO.r.inj e))]at hl''
     rw[if_neg hpt]
     exact hrdτ.regs t c s hl''
   have hRS:RS C' ks D l W (.loop (rec .ready none)) nt τ hb {tmps:=T0,defers:=[]} W:=by
    refine⟨W,@uj.mk _ ⟨[],some l⟩ _ _ _ _ _ _ (aA.2 ⟨hfs,hgj⟩) hpj (hbτ.toN (fun c hc=>?_) (fun id o q hq c hc=>?_)) hrdn,h4.fr,by rw[hrec];exact h6,h7,fun _ _=>rfl⟩
    ·rcases hc with hc|rfl|rfl
     ·have:=(hkslt c hc).1
      have:=h4.fr.size
      exact Nat.lt_trans (hkslt c hc).1 (aw h7)
     ·exact aw h7
     ·exact aw h6
    ·rintro(hc'|rfl|rfl)
     ·rw[cG]at hq
      split at hq
      ·obtain⟨y1,y2,y3⟩:=x4 id o q hq
       obtain⟨id0,r0,z1,z2,z3⟩:=y3 c hc
       obtain⟨q0,q1,e0,e1,he⟩:=hjrd id0 z1
       rw[e0]at z2
       obtain⟨_,rfl⟩:=aY.row.inj (Option.some.inj z2)
       have hav:=af.al hws.2.2.2.1 e0
       have h8:q0.owns σ id0 c:=(am.ce h1 (bZ (Nat.le_refl _) hNB hav.1) (am.ad (Nat.le_refl _) hNB _ hav.2) c).2 z3
       have h9:=am.eM (ρ:=σ) he (HV id0) c
       rw[tO]at h9
       exact h5 id0 false q1 e1 c (h9.1 h8) hc'
      ·have hav:=af.al hjws.2.2.2.1 hq
       exact h5 id o q hq c ((am.ce hστ (bZ (Nat.le_refl _) (by omega) hav.1) (am.ad (Nat.le_refl _) (by omega) _ hav.2) c).1 hc) hc'
     ·exact hbτ.noCM h7 nR hq hc rfl
     ·exact hbτ.noCM h6 eB hq hc rfl
   rw[hT0]
   refine pc4 hv1 τ {tmps:=T0,defers:=[]} W hAτ hRS (roundPost P l _) fun e ρ' a' w' hag hp=>?_
   have hρ':b7 n (n+cX (1+an.w)) ρ0 ρ':=h0τ.trans (hag.mono (by omega) (by omega)) (Nat.le_refl _) (Nat.le_refl _)
   have hA':ar ρ' amb:=(aZ hρ' (F.aq (Nat.le_refl _) hNB hambn)).2 hA
   have hRG:w'.heap[l]? =some (.loop {(rec .ready none)with state:=.busy})∧∀b,b∈ks→w'.heap[b]? =W.heap[b]? :=
    T.dY (fun z hz=>by obtain⟨_,W0,_,hg⟩:=hz;exact⟨hg.2.1,hg.2.2.2⟩) hp
   have hp':ρ'.i (n+its.length)=(pp:Int):=by rw[hag.i _ (by omega)];exact hpτ
   obtain⟨_,_,_,b4⟩:=backs C' ks D l W (rec .ready none) hrs hrp hksk hDk hlk hDl hlks ρ0 pp e a' w'
   have hlt:l<w'.heap.size:=aw hRG.1
   have box:∀(o:Obj) (b:Nat),b∈ks→(w'.putObj l o).heap[b]? =W.heap[b]? :=fun o b hb=>(World.putObj_heap_other (fun e=>hlks (by rw[←e];exact hb))).trans (hRG.2 b hb)
   have h2':=b4 hv2 ρ' (T.bd (fun z hz=>⟨hz.1,hz.2,hA',hρ',hbs.g,hbs.pc,hp'⟩) hp)
    (fun e a w=>∀c,afx e c→YC C' ks D l (rec .ready none) n (n+cX (1+an.w)) ρ0 b.R t2 (w.putObj l (.loop {(rec .ready none)with state:=.done,pending:=some c})))
    (fun e ρ'' a'' w'' hag'' hp'' c hc=>by
      have hRG':w''.heap[l]? =some (.loop {(rec .ready none)with state:=.busy})∧w''.heap[D]? =some (.deferred (some [])):=
       T.dY (fun z hz=>by obtain⟨_,_,_,_,W0,_,hg⟩:=hz;exact⟨hg.2.1,hg.2.2.1⟩) hp''
      refine⟨ρ'',e,c,hc,hρ'.trans (hag''.mono (by omega) hn3) (Nat.le_refl _) (Nat.le_refl _),World.putObj_heap_same (aw hRG'.1),(World.putObj_heap_other hDl).trans hRG'.2,T.bd (fun z hz=>?_) hp''⟩
      obtain⟨u1,u2,u3,u4,W0,u5,u6⟩:=hz
      have hsh:∀b,(b∈ks∨b=D∨b=l)→¬C'.sh b:=fun b hb hs=>by
       have hk:=u6.1.shk b hs
       rcases hb with hb|rfl|rfl
       ·exact hksk b hb hk
       ·exact hDk hk
       ·exact hlk hk
      exact⟨u1,u2,u3,(s9 u6.1 _ _ _ u5).putObj _ hRG'.1 eB hlk,fun id o q hq b hb hbk=>u5.noN hsh hq hb (.inl hbk),u4⟩)
   cases e with
   |normal=>
    have hrun:=run_endRound (P:=P) none hRG.1
    refine⟨_,_,hrun,box _,.inl ⟨rfl,?_⟩⟩
    have:JOf C' ks D l (rec .ready none) n (n+cX (1+an.w)) (n+its.length) ρ0 hj (pp+1) (w'.putObj l (.loop (rec .ready none))):=h2'
    rw[hrec]at this⊢
    exact this
   |ret=>
    have hrun:=run_endRound (P:=P) (some .ret) hRG.1
    exact⟨_,_,hrun,box _,.inr ⟨rfl,h2' _ (.inl ⟨rfl,rfl⟩)⟩⟩
   |exit j=>
    have hrun:=run_endRound (P:=P) (some (.exit j)) hRG.1
    exact⟨_,_,hrun,box _,.inr ⟨rfl,h2' _ (.inr ⟨j,rfl,rfl⟩)⟩⟩
   |goto j=>exact(T.dY (p:=False) (fun z hz=>by have h:=hz.1;rcases z with⟨ze,zb⟩;cases ze<;>cases h) hp).elim
   |panic ch=>exact(T.dY (p:=False) (fun z hz=>by have h:=hz.1;rcases z with⟨ze,zb⟩;cases ze<;>cases h) hp).elim
   |outgrown=>exact(T.dY (p:=False) (fun z hz=>by have h:=hz.1;rcases z with⟨ze,zb⟩;cases ze<;>cases h) hp).elim
  ·exact⟨ρ1,hag1.mono (Nat.le_refl _) (by omega),hq1,aA.2 ⟨hinv1,hb0'.g⟩,hb0'.pc,hHD1 _ _ (hb1.hd.sub fun id o q h=>(nv h).2),hno1,hL1,hK1⟩
  ·rintro e W' ⟨⟨v,rfl⟩,hJ|hJx⟩
   ·obtain⟨pp,hfin,σ,h1,hpi,h2,h3,h4,h5,h6,h7⟩:=hJ
    have hrun:=run_endLoop (P:=P) h6 (by rw[hrs];intro h;cases h)
    rw[hrp]at hrun
    refine⟨none,_,hrun,?_⟩
    refine hQ .normal σ _ _ h1 (.inl ⟨rfl,mkTS σ {hj with g:=r.fin++hj.g} _ h1 (aA.2 ⟨hfin σ (h1.mono (Nat.le_refl _) hNB) hpi,h2⟩) h3 (h4.putObj _ h6 eB hlk) ((World.putObj_heap_other hDl).trans h7) rfl⟩)
   ·obtain⟨σ,e,c,h0,h1,h6,h7,hp⟩:=hJx
    have hrun:=run_endLoop (P:=P) h6 (by intro h;cases h)
    refine⟨some c,_,hrun,?_⟩
    have hfin:∀e',e=e'→Q e' {a with defers:=[gY D]++a.defers} (W'.putObj l (.loop {(rec .ready none)with state:=.exhausted,pending:=some c})):=by
     rintro e' rfl
     refine hQ e σ _ _ h1 (.inr (T.bd (fun z hz=>?_) hp))
     exact⟨hz.1,mkTS σ z.2 _ h1 hz.2.1 hz.2.2.1 (hz.2.2.2.1.putObj _ h6 eB hlk) ((World.putObj_heap_other hDl).trans h7) hz.2.2.2.2.2⟩
    rcases h0 with⟨rfl,rfl⟩|⟨j,rfl,rfl⟩
    ·exact wpIn_ret (hfin _ rfl)
    ·exact wpIn_exit (hfin _ rfl)
end
section
variable [cg]
def a86:Code→Option Nat
 |.region id _ _=>some id
 |.seq a b=>match a86 a with
  |some r=>some r
  |none=>a86 b
 |.block _ a=>a86 a
 |_=>none
def D1(P:Program)(call:aU)(dr:eK)(lp:dG)(it:uv)(ann:Nat→Br→Option rL)(nt:Nat)(amb:List F):Code→Nat→Br→nf (Ex×Br)
 |.seq x y,n,b=>andThen (D1 P call dr lp it ann nt amb x n b) (fun n b=>D1 P call dr lp it ann nt amb y n b)
 |.block id x,n,b=>match D1 P call dr lp it ann nt amb x n b with
  |some (v,t,n')=>some (v,t.map (eA id),n')
  |none=>none
 |.rangeFunc g ps asg body,n,b=>match a86 asg with
  |some r=>match ann r b with
   |some an=>YA P call dr lp it nt amb an g ps asg body n b
   |none=>none
  |none=>none
 |c,n,b=>fk P call dr lp nt amb c n b
theorem vl(id:Nat)(z:Ex×Br):(eA id z).2=z.2:=by
 unfold eA;split
 ·rename_i j _;cases Nat.beq j id<;>rfl
 ·rfl
theorem Py{P:Program}{base:af}{amb:List F}{S:St}{id:Nat}{x:Code}{n n':Nat}{b:Br}{v:dU}{t:T (Ex×Br)}(h:HU base amb S S (fun a w Q=>x.wpIn (FC none) 9 P Q a w) n b v t n'):
 HU base amb S S (fun a w Q=>(Code.block id x).wpIn (FC none) 9 P Q a w) n b v (t.map (eA id)) n':=by
 obtain⟨a1,a2,a3,a4⟩:=h
 refine⟨a1,a2,T.all_map (T.bo (Nat.le_refl _) (fun z hz=>by rw[vl id z];exact hz) a3),fun hv ρ a w hA hb Q hQ=>wpIn_block ?_⟩
 refine a4 hv ρ a w hA hb _ fun e ρ' a' w' hagr hp=>?_
 have hex:∀z:Ex×Br,∀e',e'=z.1.to→(∀Q:Exit→Act→World→Prop,Q (eA id z).1.to a' w'→Exit.inBlock id Q e' a' w'):=by
  intro z e' he Q hq
  subst he
  obtain⟨ze,zb⟩:=z
  cases ze with
  |normal=>exact hq
  |ret=>exact hq
  |exit j=>
   simp only[Ex.to,Exit.inBlock]
   simp only[eA]at hq
   by_cases hj:j=id
   ·subst hj
    simp only[Nat.beq_refl,cond_true,Ex.to]at hq
    rw[if_pos rfl];exact hq
   ·have:Nat.beq j id=false:=by
     cases hh:Nat.beq j id
     ·rfl
     ·exact absurd (Nat.eq_of_beq_eq_true hh) hj
    simp only[this,cond_false,Ex.to]at hq
    rw[if_neg hj];exact hq
 have hpost:∀t:T (Ex×Br),(t.post ρ' fun z=>e=z.1.to∧S ρ' z.2 a' w')→(∀e',((t.map (eA id)).post ρ' fun z=>e'=z.1.to∧S ρ' z.2 a' w')→Q e' a' w')→Exit.inBlock id Q e a' w':=by
  intro t
  induction t with
  |lf z=>
   intro hz hall
   exact hex z e hz.1 Q (hall _ ⟨rfl,by rw[vl id z];exact hz.2⟩)
  |nd c x y ihx ihy=>
   intro hz hall
   simp only[T.post,T.map]at hz hall
   split at hz
   ·rename_i hc;exact ihx hz (fun e' he'=>hall e' (by rw[if_pos hc];exact he'))
   ·rename_i hc;exact ihy hz (fun e' he'=>hall e' (by rw[if_neg hc];exact he'))
  |or x y ihx ihy=>
   intro hz hall
   rcases hz with hz|hz
   ·exact ihx hz (fun e' he'=>hall e' (.inl he'))
   ·exact ihy hz (fun e' he'=>hall e' (.inr he'))
  |no=>exact fun hz _=>hz.elim
 exact hpost t hp fun e' he'=>hQ e' ρ' a' w' hagr he'
theorem a87{P:Program}{call:aU}(hcall:bI P call)(hN:iS P){dr:eK}(hdr:∀F:Fm,@rJ _ F P dr){lp:dG}(hlp:∀F:Fm,@rK _ F P lp){it:uv}(hit:Yz P it)(ann:Nat→Br→Option rL){nt:Nat}{amb:List F}{base:af}(C:bp){n0:Nat}(hamb:F.avos n0 ay amb=true):
 ∀c:Code,FnS base amb n0 (TS C nt) (TS C nt) (fun a w Q=>c.wpIn (FC none) 9 P Q a w) (D1 P call dr lp it ann nt amb c):=by
 have plain:∀c:Code,FnS base amb n0 (TS C nt) (TS C nt) (fun a w Q=>c.wpIn (FC none) 9 P Q a w) (fk P call dr lp nt amb c):=fun c=>
  rI.toS (ι:=Mk C) (ds:=fun i=>i.Ds.map gY) (ro:=none) (Cx:=fun i=>i.C') (G:=fun _ _ _=>True) (fun i=>@wT _ ⟨i.Ds.map gY,none⟩ P call hcall hN dr (hdr _) lp (hlp _) nt amb base i.C' n0 hamb c)
   (fun _ _ _ _ _ _ _ _=>trivial) ⟨[],C,CLe.refl C,List.nodup_nil,fun D h=>(by cases h),fun D h=>(by cases h)⟩
 intro c
 induction c with
 |seq x y ihx ihy=>
  intro n b v t n' h hn0 hws hn
  simp only[D1]at h
  obtain⟨a1,a2,a3,a4⟩:=qS (code1:=fun a w Q=>x.wpIn (FC none) 9 P Q a w) (code2:=fun a w Q=>y.wpIn (FC none) 9 P Q a w) hamb ihy hn0 (fun v t n' hx=>ihx n b v t n' hx hn0 hws hn) h
  exact⟨a1,a2,a3,fun hv ρ a w hA hb Q hQ=>wpIn_seq (a4 hv ρ a w hA hb Q hQ)⟩
 |block id x ih=>
  intro n b v t n' h hn0 hws hn
  simp only[D1]at h
  split at h
  ·rename_i v1 t1 n1 h1
   simp only[Option.some.injEq,Prod.mk.injEq]at h
   obtain⟨rfl,rfl,rfl⟩:=h
   exact Py (ih n b v1 t1 n1 h1 hn0 hws hn)
  ·cases h
 |rangeFunc g ps asg body _ _=>
  intro n b v t n' h hn0 hws hn
  simp only[D1]at h
  split at h
  ·split at h
   ·rename_i an _
    exact YD hcall hN hdr hlp hit C hamb an g ps asg body n b v t n' h hn0 hws hn
   ·cases h
  ·cases h
 |_=>exact plain _
structure afy (Ds:List Nat) (w w':World):Prop where
 os:w'.os=w.os
 tape:w'.tape=w.tape
 output:w'.output=w.output
 size:w'.heap.size=w.heap.size
 same:∀b,b∉Ds→w'.heap[b]? =w.heap[b]?
theorem oE{P:Program}{fn:Func}{tmps:Array Value}{R:Ending→World→Prop}:∀(Ds:List Nat) (w:World),Ds.Nodup→(∀D,D∈Ds→w.heap[D]? =some (.deferred (some [])))→
 (∀w',afy Ds w w'→∃v,(results fn tmps).run P w'=.ok v w'∧R (.returned v) w')→LeavesInM (FC none) 9 P fn tmps R (Ds.map gY) .returning w
 |[],w,_,_,h=>h w ⟨rfl,rfl,rfl,rfl,fun _ _=>rfl⟩
 |D::Ds,w,hnd,hD,h=>by
  have hd:=List.nodup_cons.1 hnd
  refine⟨by simp,.inl ⟨D,_,rfl,run_takeDeferred (hD D (.head _)),?_⟩⟩
  refine oE Ds _ hd.2 (fun E hE=>(World.putObj_heap_other (fun e=>hd.1 (by rw[←e];exact hE))).trans (hD E (.tail _ hE))) fun w' hw'=>h w' ⟨hw'.os,hw'.tape,hw'.output,by rw[hw'.size,World.putObj_size],fun b hb=>?_⟩
  rw[List.mem_cons,not_or]at hb
  exact(hw'.same b hb.2).trans (World.putObj_heap_other hb.1)
def adh(P:Program)(call:aU)(dr:eK)(lp:Nat→dG)(it:uv)(ann:Nat→Nat→Br→Option rL):aU:=fun f args n H g=>
 match P.funcs[f]? with
 |some fn=>
  match fn.body with
  |some c=>
   match D1 P call dr (lp f) it (ann f) (args.length+(fn.ntmps-args.length)) g c n ⟨[],[],gS 0 args,H,[]⟩with
   |some (v,t,n1)=>
    match gR (fin P fn g) t n1 with
    |some (v2,t2,n2)=>some ⟨v++v2,push [] (Wm (t2.map (oe n n2))),n2⟩
    |none=>none
   |none=>none
  |none=>none
 |none=>none
theorem a88{P:Program}{call:aU}(hcall:bI P call)(hN:iS P){dr:eK}(hdr:∀F:Fm,@rJ _ F P dr){lp:Nat→dG}(hlp:∀f,∀F:Fm,@rK _ F P (lp f)){it:uv}(hit:Yz P it)(ann:Nat→Nat→Br→Option rL):bI P (adh P call dr lp it ann):=by
 intro f args n H g out h hH hA hg hn
 unfold adh at h
 split at h
 ·rename_i fn hf
  split at h
  ·rename_i c hb
   split at h
   ·rename_i v t n1 hr
    split at h
    ·rename_i v2 t2 n2 h2
     obtain rfl:=Option.some.inj h
     have hws:(⟨[],[],gS 0 args,H,[]⟩:Br).ws H n:=⟨rfl,rfl,ql hA,hH,rfl⟩
     have key:∀(C:bp),_:=fun C=>a87 hcall hN hdr (hlp f) hit (ann f) (base:=H) C hg c n _ v t n1 hr (Nat.le_refl _) hws hn
     have fkey:∀(C:bp) (e:Exit) (a':Act) (w':World) (z:Ex×Br) (m:Nat) (v:dU) (t:T dt) (m':Nat),fin P fn g z m=some (v,t,m')→(n1≤m∧z.2.ws H m)→m≤ay→
      m≤m'∧m'≤ay∧t.all m' (dt.ws m')∧(ab v→∀ρ,((e=z.1.to∧TS C (args.length+(fn.ntmps-args.length)) ρ z.2 a' w')∧ar ρ g)→
       j8 (fun Q=>(e=.normal∨e=.ret)∧∀R:Ending→World→Prop,(∀vv w'',Q .normal ⟨#[vv],[]⟩ w''→R (.returned vv) w'')→LeavesInM (FC none) 9 P fn a'.tmps R a'.defers .returning w')
        (fun ρ x e a w=>a.tmps=#[x.s.den ρ]∧nH C H ρ (.returned (x.s.den ρ)) w x) ρ m m' t):=by
      intro C e a' w' z m v t m' hz hws hm
      obtain⟨ze,zb⟩:=z
      have main:∀(l:List SV) (u:List F),(ze=.normal∨ze=.ret)→ul P zb.R zb.H fn.results.toList=some (u,l)→(od l).avo m ay=true→
       v=(u.map fun f=>(zb.g++(zb.pc++g),f))→t=.lf ⟨zb.g,[],od l,zb.pre⟩→m'=m→
       m≤m'∧m'≤ay∧t.all m' (dt.ws m')∧(ab v→∀ρ,((e=ze.to∧TS C (args.length+(fn.ntmps-args.length)) ρ zb a' w')∧ar ρ g)→
       j8 (fun Q=>(e=.normal∨e=.ret)∧∀R:Ending→World→Prop,(∀vv w'',Q .normal ⟨#[vv],[]⟩ w''→R (.returned vv) w'')→LeavesInM (FC none) 9 P fn a'.tmps R a'.defers .returning w')
        (fun ρ x e a w=>a.tmps=#[x.s.den ρ]∧nH C H ρ (.returned (x.s.den ρ)) w x) ρ m m' t):=by
       intro l u hze hres hav hv ht hm'
       subst hv ht hm'
       refine⟨Nat.le_refl _,hm,⟨hws.2.1,rfl,hav,?_⟩,fun hval ρ hp Q hQ=>?_⟩
       ·have h4:=hws.2.2.2.2.1
        have h5:=hws.2.2.2.2.2
        simp only at h5
        rw[h5]at h4
        clear hws h5
        revert h4
        generalize zb.pre=pr
        induction pr with
        |nil=>intro _;rfl
        |cons x pr ih=>
         intro h4
         simp only[List.cons_append,af.avo,Bool.and_eq_true]at h4⊢
         exact⟨h4.1,ih h4.2⟩
       ·obtain⟨⟨he,⟨i,hbs,_⟩⟩,hgA⟩:=hp
        letI F0:Fm:=⟨i.Ds.map gY,none⟩
        have hu:ar ρ u:=fun f hf=>hval _ (List.mem_map.2 ⟨f,hf,rfl⟩) ρ (aA.2 ⟨hbs.g,aA.2 ⟨hbs.pc,hgA⟩⟩)
        refine⟨by(rcases hze with rfl|rfl);exact .inl he;exact .inr he,fun R hR=>?_⟩
        have hdf:a'.defers=i.Ds.map gY:=hbs.rd.defers
        rw[hdf]
        have hDs:∀D,D∈i.Ds→w'.heap[D]? =some (.deferred (some [])):=fun D hD=>((hbs.hd.fr.keep D (i.ok D hD).1).2).trans (i.ok D hD).2
        refine oE i.Ds w' i.nd hDs fun w'' hw=>?_
        have hd0:HD C ρ zb.H w':=i.le _ _ _ hbs.hd
        have hd:HD C ρ zb.H w'':=hd0.move hw.os hw.tape hw.output (Nat.le_of_eq hw.size.symm) (fun b hb=>hw.same b fun hm=>i.nk b hm hb)
         (fun id o r hlk b hb=>hw.same b fun hm=>hd0.noCM (hDs b hm) nR hlk hb rfl)
        refine⟨_,qM hd hbs.rd hres hu,hR _ _ (hQ .normal ρ _ w'' (b7.refl _ _ _) ?_)⟩
        refine⟨rfl,hbs.g,aj _,rfl,?_⟩
        have h5:=hws.2.2.2.2.2
        simp only at h5
        rw[←h5];exact hd
      cases ze with
      |exit j=>simp only[fin]at hz;cases hz
      |normal=>
       simp only[fin]at hz
       split at hz
       ·rename_i u l hres
        cases hav:(od l).avo m ay
        ·rw[hav]at hz;cases hz
        ·rw[hav]at hz
         simp only[cond_true,Option.some.injEq,Prod.mk.injEq]at hz
         obtain⟨rfl,rfl,rfl⟩:=hz
         exact main l u (.inl rfl) hres hav rfl rfl rfl
       ·cases hz
      |ret=>
       simp only[fin]at hz
       split at hz
       ·rename_i u l hres
        cases hav:(od l).avo m ay
        ·rw[hav]at hz;cases hz
        ·rw[hav]at hz
         simp only[cond_true,Option.some.injEq,Prod.mk.injEq]at hz
         obtain⟨rfl,rfl,rfl⟩:=hz
         exact main l u (.inr rfl) hres hav rfl rfl rfl
       ·cases hz
     obtain⟨a1,a2,a3,_⟩:=key ⟨default,fun _=>False,fun _=>False⟩
     have all1:t.all n1 (fun z=>n1≤n1∧z.2.ws H n1):=T.bo (Nat.le_refl _) (fun z hz=>⟨Nat.le_refl _,hz⟩) a3
     have base0:=fun(C:bp) (e:Exit) (a':Act) (w':World)=>gE (ws:=fun m (z:Ex×Br)=>n1≤m∧z.2.ws H m) (ws':=fun m (x:dt)=>x.ws m)
      (fun _ _ z hnm hz=>⟨Nat.le_trans hz.1 hnm,Br.bh hnm hz.2⟩) (fun _ _ x hnm hx=>dt.bh hnm hx) (fkey C e a' w') t n1 v2 t2 n2 h2 all1 a2
     obtain⟨g1,g2,g3,_⟩:=base0 ⟨default,fun _=>False,fun _=>False⟩ .normal ⟨#[],[]⟩ default
     refine⟨by show n≤n2;omega,g2,lM rfl (qk (T.all_map (T.bo (Nat.le_refl _) (fun x hx=>Ck hx) g3))),fun hv C ρ w hgρ HH=>?_⟩
     obtain⟨_,_,_,a4⟩:=key C
     refine callsIn_wide.1 (callsIn_of_wp_marks (F:=FC none) (n:=9) hf hb trivial ?_)
     have hR:@RD ⟨[],none⟩ (args.length+(fn.ntmps-args.length)) ρ (gS 0 args) {tmps:=(args.map (SV.den ρ)).toArray++Array.replicate (fn.ntmps-(args.map (SV.den ρ)).toArray.size) undef,defers:=[]}:=
      Cl (by simp)
     have hTS:TS C (args.length+(fn.ntmps-args.length)) ρ ⟨[],[],gS 0 args,H,[]⟩ {tmps:=(args.map (SV.den ρ)).toArray++Array.replicate (fn.ntmps-(args.map (SV.den ρ)).toArray.size) undef,defers:=[]} w:=
      ⟨⟨[],C,CLe.refl C,List.nodup_nil,fun D h=>(by cases h),fun D h=>(by cases h)⟩,@uj.mk _ ⟨[],none⟩ _ _ _ _ _ _ (aj _) (aj _) HH hR,trivial⟩
     refine a4 hv.app.1 ρ _ w hgρ hTS _ fun e ρ' a' w' hagr hp=>?_
     obtain⟨_,_,_,g4⟩:=base0 C e a' w'
     have hgρ':=(aZ hagr (F.aq (Nat.le_refl _) a2 hg)).2 hgρ
     obtain⟨hexit,hQ⟩:=g4 hv.app.2 ρ' (T.bd (fun z hz=>⟨hz,hgρ'⟩) hp)
      (fun _ a w=>∃ρ'',b7 n1 n2 ρ' ρ''∧t2.post ρ'' fun x=>a.tmps=#[x.s.den ρ'']∧nH C H ρ'' (.returned (x.s.den ρ'')) w x)
      (fun e ρ'' a w hag hpp=>⟨ρ'',hag,hpp⟩)
     have fine:=hQ (fun e w'=>∃ρ',b7 n n2 ρ ρ'∧(push [] (Wm (t2.map (oe n n2)))).post ρ' fun x=>ar ρ' x.fs∧ar ρ' x.pc∧e=.returned (x.s.den ρ')∧HD C ρ' (x.pre++H) w') fun vv w'' hq=>by
      obtain⟨ρ'',hag,hpp⟩:=hq
      refine⟨ρ'',hagr.trans hag g1 a1,lL (aj _) (qj (T.l7.2 (T.bd (fun x hx=>?_) hpp)))⟩
      obtain⟨h1,h2⟩:=hx
      have hvv:vv=x.s.den ρ'':=by
       have:(#[vv]:Array Value)=#[x.s.den ρ'']:=h1
       simpa using this
      exact Cj hH (by rw[hvv];exact h2)
     rcases hexit with rfl|rfl
     ·exact fine
     ·exact fine
    ·cases h
   ·cases h
  ·cases h
 ·cases h
end
end Go.Proofs.YteelgjcnkhmigaaGreatDoor.E
namespace Go.Proofs.YteelgjcnkhmigaaGreatDoor.K
open Go.RowKit Go.Shelf Go.Proofs.YteelgjcnkhmigaaGreatDoor.E
section
attribute [local go_sem] Oper.semAt_some
theorem afz(l B0 B1:Nat)(a b:Int)(ha:a≤100)(hb:0≤b)(ha0: -1≤a)(J Jx:World→Prop)
 (hst:∀A B,J A→dX [B0,B1] A B→J B) (hsx:∀A B,Jx A→dX [B0,B1] A B→Jx B)
 (hY:∀W (x:Int),J W→b≤x→x≤a→YieldAt Fence.wide 9 Tryz.prog l #[.int .i64 x] W fun e W'=>(∀b,b∈[B0,B1]→W'.heap[b]? =W.heap[b]?)∧((e=.returned (.bool true)∧J W')∨(e=.returned (.bool false)∧Jx W')))
 (W:World) (hB0:W.cell? ⟨B0,0,none⟩=some (.int .i64 a)) (hB1:W.cell? ⟨B1,0,none⟩=some (.int .i64 b)) (h0:J W):
 CallsIn Fence.wide 10 Tryz.prog 228 #[.func (.yield l) #[] #[],.pointer (some ⟨B0,0,none⟩),.pointer (some ⟨B1,0,none⟩)] W fun e W'=>(∃v,e=.returned v)∧(J W'∨Jx W'):=by
 refine callsIn_of_wp Tryz.func228 rfl trivial ?_ rfl
 simp only[Tryz.ntmps228,List.size_toArray,List.length_cons,List.length_nil,Nat.reduceAdd,Nat.reduceSub,Array.replicate_succ,Array.replicate_zero,List.push_toArray,List.append_toArray,List.nil_append,List.cons_append]
 gi_wp2
 gi_loopw [4] (fun v wr=>∃x:Int,-1≤x∧x≤a∧v=.int .i64 x∧wr.cell? ⟨B1,0,none⟩=some (.int .i64 b)∧J wr)
  (fun v _=>(intOf v+1).toNat)
 case atStart=>
  exact⟨a,ha0,Int.le_refl _,rfl,hB1,h0⟩
 case round=>
  obtain⟨x,hx1,hx2,rfl,hcb,hJs⟩:=hrel
  by_cases hlt:b≤x
  ·obtain⟨fn,tmps,assign,body,hy,hR⟩:=hY wr x hJs hlt hx2
   gi_wp2
   refine hR.mono ?_
   rintro e W3 ⟨hk3,⟨rfl,hJ3⟩|⟨rfl,hJx3⟩⟩
   ·have hq3:W3.cell? ⟨B1,0,none⟩=some (.int .i64 b):=by
     have:=hk3 B1 (by simp)
     simp only[World.cell?,this];exact hcb
    gi_wp2
    go_roundw
    case rel=>exact⟨x-1,by omega,by omega,rfl,hq3,hJ3⟩
    case measure=>simp[intOf];omega
   ·gi_wp2
    go_end0
    exact⟨⟨_,rfl⟩,.inr hJx3⟩
  ·have hf:decide (b≤x)=false:=decide_eq_false hlt
   gi_wp2
   refine⟨fun _ h=>(by cases h),?_⟩
   gi_wp2
   go_end0
   exact⟨⟨_,rfl⟩,.inl hJs⟩
end
end Go.Proofs.YteelgjcnkhmigaaGreatDoor.K
namespace Go.Proofs.YteelgjcnkhmigaaGreatDoor.K
open Go.RowKit Go.Proofs.YteelgjcnkhmigaaGreatDoor.E
abbrev LL:=Nat→Nat→Int
def bE(x:Int)(k:Nat):Bool:=x.toNat.testBit k
def eT:List Int→List LL→Prop
 |[n],[a,b]=>∀i j:Nat,(i:Int)<n→a i j=b i j
 |_,_=>False
def CL:List Int→List LL→Prop
 |[i,car],[l]=>∀a:Nat,(a:Int)<i→l a 0≠car
 |_,_=>False
def XA:List Int→List LL→Prop
 |[r,n,car],[l]=> -1≤r∧r<n∧(0≤r→l r.toNat 0=car)∧(r<0→∀a:Nat,(a:Int)<n→l a 0≠car)
 |_,_=>False
def cV:List Int→List LL→Prop
 |[i],[l]=>∀a:Nat,(a:Int)<i→l a 11= -1
 |_,_=>False
def ft:List Int→List LL→Prop
 |[m,n],[l]=>0≤m∧m≤n∧(∀a:Nat,(a:Int)<m→0≤l a 0∧l a 0<n)∧∀a b:Nat,(a:Int)<m→(b:Int)<m→l a 0=l b 0→a=b
 |_,_=>False
def CM:List Int→List LL→Prop
 |[m,n],[l]=>∀a:Nat,(a:Int)<m→0≤l a 0∧l a 0<n
 |_,_=>False
def CN:List Int→List LL→Prop
 |[m,m0],[l,l0]=>∀x:Int,(∀b:Nat,(b:Int)<m0→l0 b 0≠x)→∀a:Nat,(a:Int)<m→l a 0≠x
 |_,_=>False
def nN:List Int→List LL→Prop
 |[i,m],[l,l0]=>∀a:Nat,(a:Int)<m→∀j,l a j=if(a:Int)<i then l0 a j else l0 (a+1) j
 |_,_=>False
def eA:List Int→List LL→Prop
 |[r,a,b],_=>r= -1∨0≤r∧r<64∧bE a r.toNat=false∧bE b r.toNat=false
 |_,_=>False
def aC(F S W Fu nb home mode at_:Int)(x:Nat→Int):Prop:=
 (0≤x 0∧x 0≤(F-1)*8)∧(-S≤x 1∧x 1≤S)∧(0≤x 3∧x 3≤W)∧x 4=W∧(0≤x 5∧x 5≤Fu)∧x 6=Fu∧(0≤x 9∧x 9≤5)∧(-1≤x 11∧x 11≤31)∧(0≤x 14∧x 14<nb)∧
 (x 9=2→x 11=home)∧(x 9=1∨x 9=3∨x 9=5→x 11= -1)∧(x 9≠5→(mode=0↔x 9=0))∧(x 9=2→at_=2)
def fR(mode at_:Int)(x:Nat→Int):Prop:=
 (0≤x 10∧x 10≤5)∧(x 9=x 10∨x 9=5∨x 9=1∨(x 9=0∧x 10≠2)∨(x 9=2∧x 10=1)∨(x 9=3∧x 10=4)∨(x 9=4∧x 10=3))∧(mode=0→x 10≠2)∧(x 10=2→at_=2)∧(x 9=2→x 10=2∨x 12≠0)
def inv:List Int→List LL→Prop
 |[n,F,S,W,Fu,nb,home,mode,at_],[l]=>(∀a:Nat,(a:Int)<n→aC F S W Fu nb home mode at_ (l a))∧
  ∀a b:Nat,(a:Int)<n→(b:Int)<n→(l a 9=2∨l a 9=4)→(l b 9=2∨l b 9=4)→a=b
 |_,_=>False
def fM:List Int→List LL→Prop
 |[n,mode,at_],[l]=>∀a:Nat,(a:Int)<n→fR mode at_ (l a)
 |_,_=>False
def BH:List Int→List LL→Prop
 |[n],[l0,l]=>∀a:Nat,(a:Int)<n→l a 0=l0 a 0∧l a 1=l0 a 1∧l a 3=l0 a 3∧l a 5=l0 a 5∧l a 10=l0 a 10
 |_,_=>False
def aV:List Int→List LL→Prop
 |[F,home,speed,width,dwell,good,dead,lag,turn,cost,full,n,nb,lb,lo],_=>(2≤F∧F≤32)∧(0≤home∧home<F)∧(1≤speed∧speed≤8)∧(1≤width∧width≤16)∧(1≤dwell∧dwell≤200)∧(1≤good∧good≤200)∧(1≤dead∧dead≤200)∧(0≤lag∧lag≤8)∧
  (1≤turn∧turn≤200)∧(0≤cost∧cost≤100)∧(0≤full∧full≤1048576)∧(0≤n∧n≤64)∧(0≤nb∧nb≤8)∧lb=nb∧(0≤lo∧lo≤64)
 |_,_=>False
def ac1:List Int→List LL→Prop
 |[a,b,c,d,e,f,last],_=>(0≤a∧a≤1000000)∧(0≤b∧b≤1000000)∧(0≤c∧c≤1000000)∧(0≤d∧d≤1000000)∧(0≤e∧e≤1000000)∧(0≤f∧f≤1000000)∧(0≤last∧last≤1)
 |_,_=>False
def ac2:List Int→List LL→Prop
 |[m],[l]=>∀a:Nat,(a:Int)<m→l a 7=0
 |_,_=>False
def CO:List Int→List LL→Prop
 |[r,x,y],_=>(0≤r∧r<18446744073709551616)∧∀k:Nat,bE r k=true→bE x k=true∨(k:Int)=y
 |_,_=>False
def XB:List Int→List LL→Prop
 |[r,x],_=>(0≤r∧r<18446744073709551616)∧∀k:Nat,bE r k=true→bE x k=true
 |_,_=>False
def XC:List Int→List LL→Prop
 |[x,y],_=>0≤y∧y<64∧bE x y.toNat=true
 |_,_=>False
def tA:List Int→List LL→Prop
 |[r,x],_=>r= -1∨(0≤r∧r<64∧bE x r.toNat=true)
 |_,_=>False
def ready:List Int→List LL→Prop
 |[i,r],[l]=>(0≤r∧r<18446744073709551616)∧∀k:Nat,bE r k=true→(k:Int)<i∧(l k 9=3∨l k 9=4)∧(l k 10=3∨l k 10=4)
 |_,_=>False
def Pa:List Int→List LL→Prop
 |[i,r],[l]=>(0≤r∧r<18446744073709551616)∧∀k:Nat,bE r k=true→(k:Int)<i∧l k 9=1∧l k 10=1∧l k 1=0
 |_,_=>False
def Hv:List Int→List LL→Prop
 |[i],[l]=>∀a:Nat,(a:Int)<i→l a 9≠1∧l a 9≠2
 |_,_=>False
def ot:List Int→List LL→Prop
 |[i,n,p],[l,l0]=>∀a:Nat,(a:Int)<n→l a 0=l0 a 0∧l a 1=l0 a 1∧l a 2=l0 a 2∧l a 3=l0 a 3∧l a 4=l0 a 4∧l a 5=l0 a 5∧l a 6=l0 a 6∧l a 7=l0 a 7∧l a 8=l0 a 8∧l a 10=l0 a 10∧l a 12=l0 a 12∧l a 13=l0 a 13∧l a 14=l0 a 14∧l a 11=(if(a:Int)<i then -1 else l0 a 11)∧l a 9=(if(a:Int)<i∧l0 a 9≠5 then p else l0 a 9)
 |_,_=>False
def tB:List Int→List LL→Prop
 |[n,i,f],[l,l0]=>∀a:Nat,(a:Int)<n→l a 0=l0 a 0∧l a 1=l0 a 1∧l a 2=l0 a 2∧l a 3=l0 a 3∧l a 4=l0 a 4∧l a 5=l0 a 5∧l a 6=l0 a 6∧l a 7=l0 a 7∧l a 8=l0 a 8∧l a 9=l0 a 9∧l a 10=l0 a 10∧l a 13=l0 a 13∧l a 14=l0 a 14∧l a 11=(if(a:Int)=i then f else l0 a 11)∧l a 12=(if(a:Int)=i then 1 else l0 a 12)
 |_,_=>False
def eU:List Int→List LL→Prop
 |[i,n,but],[l,l0]=>∀a:Nat,(a:Int)<n→l a 0=l0 a 0∧l a 1=l0 a 1∧l a 2=l0 a 2∧l a 3=l0 a 3∧l a 4=l0 a 4∧l a 5=l0 a 5∧l a 6=l0 a 6∧l a 7=l0 a 7∧l a 8=l0 a 8∧l a 10=l0 a 10∧l a 11=l0 a 11∧l a 12=l0 a 12∧l a 13=l0 a 13∧l a 14=l0 a 14∧l a 9=(if(a:Int)<i∧l0 a 9=4∧(a:Int)≠but then 3 else l0 a 9)
 |_,_=>False
def gL:List Int→List LL→Prop
 |[n],[l,l0]=>∀a:Nat,(a:Int)<n→l a 0=l0 a 0∧l a 1=l0 a 1∧l a 2=l0 a 2∧l a 3=l0 a 3∧l a 4=l0 a 4∧l a 5=l0 a 5∧l a 6=l0 a 6∧l a 7=l0 a 7∧l a 8=l0 a 8∧l a 9=l0 a 9∧l a 10=l0 a 10∧l a 11=l0 a 11∧l a 12=l0 a 12∧l a 13=l0 a 13∧l a 14=l0 a 14
 |_,_=>False
def tC:List Int→List LL→Prop
 |[n],[l]=>∃a:Nat,(a:Int)<n∧l a 11≠ -1
 |_,_=>False
def Hw:List Int→List LL→Prop
 |[i,m],[l,p]=>∀a:Nat,(a:Int)<m→p a 0<i→l (p a 0).toNat 11≠ -1
 |_,_=>False
def nO:List Int→List LL→Prop
 |[n],[l,l0]=>∀a:Nat,(a:Int)<n→l0 a 11= -1→l a 11= -1
 |_,_=>False
def cW:List Int→List LL→Prop
 |[n,i],[l,l0]=>∀a:Nat,(a:Int)<n→l a 0=l0 a 0∧l a 1=l0 a 1∧l a 2=l0 a 2∧l a 3=l0 a 3∧l a 4=l0 a 4∧l a 6=l0 a 6∧l a 9=l0 a 9∧l a 10=l0 a 10∧l a 11=l0 a 11∧l a 12=l0 a 12∧l a 14=l0 a 14∧
  ((a:Int)≠i→l a 5=l0 a 5∧l a 7=l0 a 7∧l a 8=l0 a 8∧l a 13=l0 a 13)
 |_,_=>False
def xh(S cost power:Int)(x y:Nat→Int):Prop:=
 (0<y 3→x 0=y 0∧x 1=0)∧(y 3<x 3→(y 0).tmod 8=0∧y 1=0∧x 1=0)∧(x 3≤y 3+1∧y 3-1≤x 3)∧
 (x 1≠0→(x 1≤y 1+1∧y 1-1≤x 1∧x 0=y 0+x 1∧ -S≤x 1∧x 1≤S)∧(x 5=y 5-cost∨(x 11≠ -1∧power≠0)))
def gV:List Int→List LL→Prop
 |[n,i,S,cost,power],[l,l0]=>∀a:Nat,(a:Int)<n→(l a 2=l0 a 2∧l a 4=l0 a 4∧l a 6=l0 a 6∧l a 9=l0 a 9∧l a 10=l0 a 10∧l a 11=l0 a 11∧l a 12=l0 a 12∧l a 14=l0 a 14)∧
  (i≤(a:Int)→l a 0=l0 a 0∧l a 1=l0 a 1∧l a 3=l0 a 3∧l a 5=l0 a 5)∧((a:Int)<i→xh S cost power (l a) (l0 a))
 |_,_=>False
def eV:List Int→List LL→Prop
 |[n,i],[l,l0]=>∀a:Nat,(a:Int)<n→(l a 0=l0 a 0∧l a 1=l0 a 1∧l a 2=l0 a 2∧l a 3=l0 a 3∧l a 4=l0 a 4∧l a 5=l0 a 5∧l a 6=l0 a 6∧l a 7=l0 a 7∧l a 8=l0 a 8∧l a 10=l0 a 10∧l a 13=l0 a 13∧l a 14=l0 a 14)∧
  (i≤(a:Int)→l a 9=l0 a 9∧l a 11=l0 a 11∧l a 12=l0 a 12)∧
  ((a:Int)<i→(l a 9=l0 a 9∧l a 11=l0 a 11)∨(l0 a 12=0∧l0 a 11≠ -1∧l0 a 0=l0 a 11*8∧l0 a 1=0∧l0 a 3=l0 a 4∧l a 11= -1∧l a 9=if l0 a 9=2 then 3 else l0 a 9))
 |_,_=>False
def XD:List Int→List LL→Prop
 |[n,home,W],[l]=>∀a:Nat,(a:Int)<n→(0≤l a 10∧l a 10≤5)∧(l a 9=l a 10∨l a 9=5∨l a 9=1∨(l a 9=0∧l a 10≠2)∨(l a 9=2∧l a 10=1)∨(l a 9=3∧l a 10=4)∨(l a 9=4∧l a 10=3)∨
  (l a 9=3∧l a 10=2∧l a 0=home*8∧l a 3=W∧l a 1=0∧l a 11= -1))
 |_,_=>False
def tD:List Int→List LL→Prop
 |[n,S,cost,power],[l,l0]=>∀a:Nat,(a:Int)<n→l a 10=l0 a 9∧xh S cost power (l a) (l0 a)
 |_,_=>False
def tE:List Int→List LL→Prop
 |[m,n],[l]=>(0≤m∧m≤n)∧(∀a:Nat,(a:Int)<m→0≤l a 0∧l a 0<n)∧∀a b:Nat,(b:Int)<m→a<b→l a 0<l b 0
 |_,_=>False
def gM:List Int→List LL→Prop
 |[k,i,m,n],[p,l]=>(0≤k∧k≤i)∧(∀a:Nat,(a:Int)<k→∃b:Nat,(b:Int)<i∧(b:Int)<m∧p a 0=l b 0)∧∀a b:Nat,(a:Int)<k→(b:Int)<k→p a 0=p b 0→a=b
 |_,_=>False
def xi:List Int→List LL→Prop
 |[n],[s,l]=>∀a:Nat,(a:Int)<n→s a 0=l a 9∧s a 1=l a 0∧s a 2=l a 1∧s a 3=l a 3∧s a 4=l a 2∧s a 5=l a 5∧s a 6=l a 11
 |_,_=>False
def phs:List Int→List LL→Prop
 |[n],[p,s]=>∀a:Nat,(a:Int)<n→p a 0=s a 0
 |_,_=>False
def CP:List Int→List LL→Prop
 |[n],[p]=>(∀a:Nat,(a:Int)<n→0≤p a 0∧p a 0≤5)∧∀a b:Nat,(a:Int)<n→(b:Int)<n→
  ((p a 0=2∨p a 0=4)→(p b 0=2∨p b 0=4)→a=b)∧(p a 0=0→p b 0=0∨p b 0=5)
 |_,_=>False
def XE(x y:Int):Prop:=x=y∨y=5∨(x=0∧y=1)∨(x=1∧(y=0∨y=2))∨(x=2∧(y=1∨y=3))∨(x=3∧(y=0∨y=1∨y=4))∨(x=4∧(y=0∨y=1∨y=3))∨(x=5∧(y=0∨y=1))
def XF:List Int→List LL→Prop
 |[n],[p,q]=>∀a:Nat,(a:Int)<n→XE (p a 0) (q a 0)
 |_,_=>False
def tF:List Int→List LL→Prop
 |[n,i],[l,l0]=>∀a:Nat,(a:Int)<n→l a 0=l0 a 0∧l a 1=l0 a 1∧l a 2=l0 a 2∧l a 3=l0 a 3∧l a 4=l0 a 4∧l a 5=l0 a 5∧l a 6=l0 a 6∧l a 7=l0 a 7∧l a 8=l0 a 8∧l a 9=l0 a 9∧l a 11=l0 a 11∧l a 12=l0 a 12∧l a 13=l0 a 13∧l a 14=l0 a 14∧l a 10=(if(a:Int)<i then l0 a 9 else l0 a 10)
 |_,_=>False
def nnL:List Int→List LL→Prop
 |[m],[l]=>∀a:Nat,(a:Int)<m→0≤l a 0
 |_,_=>False
def XG:List Int→List LL→Prop
 |[k,n],[l,l0]=>k=0→∀a:Nat,(a:Int)<n→l a 0=l0 a 0∧l a 1=l0 a 1∧l a 2=l0 a 2∧l a 3=l0 a 3∧l a 4=l0 a 4∧l a 5=l0 a 5∧l a 6=l0 a 6∧l a 7=l0 a 7∧l a 8=l0 a 8∧l a 9=l0 a 9∧l a 10=l0 a 10∧l a 11=l0 a 11∧l a 12=l0 a 12∧l a 13=l0 a 13∧l a 14=l0 a 14
 |_,_=>False
def phL:List Int→List LL→Prop
 |[n],[p,l]=>∀a:Nat,(a:Int)<n→p a 0=l a 9
 |_,_=>False
def Pb:List Int→List LL→Prop
 |[x,y],_=>XE x y∧(0≤x∧x≤5)∧(0≤y∧y≤5)
 |_,_=>False
def dH:List Int→List LL→Prop
 |[n],[l]=>∀a:Nat,(a:Int)<n→(1≤l a 0∧l a 0≤8)∧(0≤l a 1∧l a 1≤1000)∧(0≤l a 2∧l a 2≤1000)∧(0≤l a 3∧l a 3≤1000)∧(0≤l a 4∧l a 4≤100)∧(0≤l a 5∧l a 5≤1000)∧(0≤l a 6∧l a 6≤64)
 |_,_=>False
def qO(l:LL):Nat→Int
 |0=>0
 |k+1=>qO l k+l k 0
def kQ:List Int→List LL→Prop
 |[i,s],[l]=>0≤i∧s=qO l i.toNat
 |_,_=>False
def iT:List Int→List LL→Prop
 |[i,nb,car],[l]=>(0≤i∧i≤nb)∧0≤car∧car+qO l i.toNat<qO l nb.toNat
 |_,_=>False
def CQ:List Int→List LL→Prop
 |[n],[l]=>∀a:Nat,(a:Int)<n→l a 0≤6
 |_,_=>False
def ac:Nat→List Int→List LL→Prop
 |0=>eT
 |1=>CL
 |2=>XA
 |3=>cV
 |4=>ft
 |5=>CM
 |6=>CN
 |7=>nN
 |8=>eA
 |9=>inv
 |10=>fM
 |11=>BH
 |12=>ot
 |13=>aV
 |14=>ac1
 |15=>ac2
 |16=>CO
 |17=>XB
 |18=>XC
 |19=>tA
 |20=>ready
 |21=>Pa
 |22=>Hv
 |23=>tB
 |24=>eU
 |25=>gL
 |26=>tC
 |27=>Hw
 |28=>nO
 |29=>cW
 |30=>gV
 |31=>eV
 |32=>XD
 |33=>tD
 |34=>tE
 |35=>gM
 |36=>xi
 |37=>phs
 |38=>CP
 |39=>XF
 |40=>tF
 |41=>nnL
 |42=>XG
 |43=>phL
 |44=>Pb
 |45=>dH
 |46=>kQ
 |47=>iT
 |48=>BL
 |49=>CQ
 |_=>fun _ _=>False
instance aht:cg:=⟨ac,48,fun _ _ h=>h⟩
def ac4:=3
def XH:=4
def aee:=5
def ka:=6
def ee:=7
def Hx:=8
def ac5:=9
def a71:=10
def xj:=11
def un:=12
def Nj:=13
def a72:=14
def XI:=15
def rY:=16
def tG:=18
def ac6:=19
def aah:=20
def aai:=21
def xk:=22
def XJ:=23
def aef:=24
def XL:=25
def aeg:=26
def CR:=27
def Nk:=28
def XM:=29
def aaj:=30
def Nl:=31
def aeh:=32
def XN:=33
def XO:=34
def aei:=35
def ac7:=36
def aej:=37
def ac8:=38
def aak:=39
def agv:=40
def Hy:=41
def aek:=42
def ac9:=43
def agw:=44
def XP:=45
def ael:=46
def aem:=47
def ou:=48
def XQ:=49
def Nm:=50
def XR:=52
theorem qP:Tryz.prog.follows .mixedOrders=true:=by kernel_rfl
theorem aen: (Tryz.prog.funcs.toList.all fun f => !(f.name == "runtime.NumGoroutine")) = true := by kernel_rfl
theorem CS:iS Tryz.prog:=by
 intro f fn h
 have h1:=List.all_eq_true.1 aen fn (by rw[Array.mem_toList_iff];exact Array.mem_of_getElem? h)
 simpa using h1
noncomputable def run(cs:List bg)(ann:cj):aU:=v9 Tryz.prog (Ht cs) ann 12 12
def aS(cs:List bg):Prop:=∀c,c∈cs→c.ok Tryz.prog
theorem aS.nil:aS []:=fun _ h=>by cases h
theorem aS.cons{c:bg}{cs:List bg}(h:c.ok Tryz.prog)(hs:aS cs):aS (c::cs):=fun x hx=>by
 cases hx with
 |head=>exact h
 |tail _ hx=>exact hs x hx
theorem aS.app{a b:List bg}(h:aS a)(hs:aS b):aS (a++b):=fun x hx=>by
 rcases List.mem_append.1 hx with h'|h'
 ·exact h x h'
 ·exact hs x h'
theorem ao{cs:List bg}(hcs:aS cs)(ann:cj){c:bg}{want:dU}(hw:ab want)(ks:List Nat)(h:tw c want ks (run cs ann c.f c.args c.M c.H0 c.pre)=true):c.ok Tryz.prog:=
 CJ (gJ qP CS (jY hcs) ann 12 12) hw h
theorem a73{cs:List bg}(hcs:aS cs)(ann:cj){c:bg}{want:dU}(hw:ab want)(ks:List Nat)(h:abz c want ks (run cs ann c.f c.args c.M c.H0 c.pre)=true):c.ok Tryz.prog:=
 a6z (gJ qP CS (jY hcs) ann 12 12) hw h
theorem Nn{cs:List bg}(hcs:aS cs)(ann:cj){c:bg}{want:dU}(hw:ab want)(ks:List Nat)(h:ac0 c want ks (run cs ann c.f c.args c.M c.H0 c.pre)=true):c.ok Tryz.prog:=
 a70 (gJ qP CS (jY hcs) ann 12 12) hw h
def ki:CK:=.int .i64
def iv(v:Nat):SV:=.int .i64 (.var v)
def leq(a b:IE):F:=.be (.cmp .leq a b)
def lss(a b:IE):F:=.be (.cmp .lss a b)
def eql(a b:IE):F:=.be (.cmp .eql a b)
def v(n:Nat):IE:=.var n
def c(n:Int):IE:=.lit n
def kb:CK:=.byte
def kw:CK:=.int .u32
def kq:CK:=.int .u64
def fV(b:Br)(t:Nat):SV:=match E.ai (.r t) b.R with|some (.reg _ s)=>s|_=> .nilp
def bu(b:Br)(t:Nat):IE:=match fV b t with|.int _ e=>e|_=> .lit 0
def aal(s:SV):Nat:=match s with|.ptr (.at id _)=>id|.lst id=>id|_=>0
def eu(b:Br)(t:Nat):Nat:=aal (fV b t)
def lr(b:Br)(s:SV):IE:=match s with|.lst id=>(match E.ai (.h id) b.H with|some (.row _ (.lst _ _ n _))=>n|_=> .lit 0)|_=> .lit 0
def agx(b:Br)(s:SV):LE:=match s with|.lst id=>(match E.ai (.h id) b.H with|some (.row _ (.lst _ _ _ l))=>l|_=> .var 0)|_=> .var 0
def nl(b:Br)(id o:Nat):SV:=match E.ai (.h id) b.H with|some (.row _ (.cells _ l))=>(match l[o]? with|some s=>s|none=> .nilp)|_=> .nilp
def vf(b:Br)(id o:Nat):IE:=match nl b id o with|.int _ e=>e|_=> .lit 0
def co(len:IE):List pV:=[.be fun n=> .cmp .leq (c 0) (v n),.be fun n=> .cmp .leq (v n) len]
theorem Yd(is:List Int)(a b:LL):bF 0 is [a,b]=(a=b):=rfl
theorem a7n(a b:LL):(a=b)=(∀i j,a i j=b i j):=propext ⟨fun h i j=>by rw[h],fun h=>funext fun i=>funext fun j=>h i j⟩
theorem ae(l:LL)(i:Int)(c:Nat)(v:Int)(j d:Nat):ah l i c v j d=if j=i.toNat∧d=c then v else l j d:=rfl
theorem eh(p:Prop)[Decidable p](a b:LL)(j d:Nat):(if p then a else b) j d=if p then a j d else b j d:=by split<;>rfl
theorem Ye(m:Int)(a b c:LL):bF 1 [m] [a,b,c]=(∀i j,c i j=if i<m.toNat then a i j else b (i-m.toNat) j):=rfl
theorem Yf(m:Int)(a b:LL):bF 2 [m] [a,b]=(∀i j,b i j=a (i+m.toNat) j):=rfl
theorem Yg(is:List Int)(ls:List LL):bF 3 is ls=ac 0 is ls:=rfl
theorem Yh(is:List Int)(ls:List LL):bF 4 is ls=ac 1 is ls:=rfl
theorem Yi(is:List Int)(ls:List LL):bF 5 is ls=ac 2 is ls:=rfl
theorem Yj(is:List Int)(ls:List LL):bF 6 is ls=ac 3 is ls:=rfl
theorem Yk(is:List Int)(ls:List LL):bF 7 is ls=ac 4 is ls:=rfl
theorem Yl(is:List Int)(ls:List LL):bF 8 is ls=ac 5 is ls:=rfl
theorem Ym(is:List Int)(ls:List LL):bF 9 is ls=ac 6 is ls:=rfl
theorem Nv(is:List Int)(ls:List LL):bF 10 is ls=ac 7 is ls:=rfl
theorem xu(is:List Int)(ls:List LL):bF 11 is ls=ac 8 is ls:=rfl
theorem Nw(is:List Int)(ls:List LL):bF 12 is ls=ac 9 is ls:=rfl
theorem Nx(is:List Int)(ls:List LL):bF 13 is ls=ac 10 is ls:=rfl
theorem Ny(is:List Int)(ls:List LL):bF 14 is ls=ac 11 is ls:=rfl
theorem Nz(is:List Int)(ls:List LL):bF 15 is ls=ac 12 is ls:=rfl
theorem NA(is:List Int)(ls:List LL):bF 16 is ls=ac 13 is ls:=rfl
theorem NB(is:List Int)(ls:List LL):bF 17 is ls=ac 14 is ls:=rfl
theorem NC(is:List Int)(ls:List LL):bF 18 is ls=ac 15 is ls:=rfl
theorem ND(is:List Int)(ls:List LL):bF 19 is ls=ac 16 is ls:=rfl
theorem NE(is:List Int)(ls:List LL):bF 20 is ls=ac 17 is ls:=rfl
theorem xv(is:List Int)(ls:List LL):bF 21 is ls=ac 18 is ls:=rfl
theorem NF(is:List Int)(ls:List LL):bF 22 is ls=ac 19 is ls:=rfl
theorem NG(is:List Int)(ls:List LL):bF 23 is ls=ac 20 is ls:=rfl
theorem NH(is:List Int)(ls:List LL):bF 24 is ls=ac 21 is ls:=rfl
theorem NI(is:List Int)(ls:List LL):bF 25 is ls=ac 22 is ls:=rfl
theorem NJ(is:List Int)(ls:List LL):bF 26 is ls=ac 23 is ls:=rfl
theorem NK(is:List Int)(ls:List LL):bF 27 is ls=ac 24 is ls:=rfl
theorem NL(is:List Int)(ls:List LL):bF 28 is ls=ac 25 is ls:=rfl
theorem NM(is:List Int)(ls:List LL):bF 29 is ls=ac 26 is ls:=rfl
theorem NN(is:List Int)(ls:List LL):bF 30 is ls=ac 27 is ls:=rfl
theorem NO(is:List Int)(ls:List LL):bF 31 is ls=ac 28 is ls:=rfl
theorem NP(is:List Int)(ls:List LL):bF 32 is ls=ac 29 is ls:=rfl
theorem NQ(is:List Int)(ls:List LL):bF 33 is ls=ac 30 is ls:=rfl
theorem NR(is:List Int)(ls:List LL):bF 34 is ls=ac 31 is ls:=rfl
theorem NS(is:List Int)(ls:List LL):bF 35 is ls=ac 32 is ls:=rfl
theorem NT(is:List Int)(ls:List LL):bF 36 is ls=ac 33 is ls:=rfl
theorem NU(is:List Int)(ls:List LL):bF 37 is ls=ac 34 is ls:=rfl
theorem NV(is:List Int)(ls:List LL):bF 38 is ls=ac 35 is ls:=rfl
theorem NW(is:List Int)(ls:List LL):bF 39 is ls=ac 36 is ls:=rfl
theorem NX(is:List Int)(ls:List LL):bF 40 is ls=ac 37 is ls:=rfl
theorem NY(is:List Int)(ls:List LL):bF 41 is ls=ac 38 is ls:=rfl
theorem NZ(is:List Int)(ls:List LL):bF 42 is ls=ac 39 is ls:=rfl
theorem O0(is:List Int)(ls:List LL):bF 43 is ls=ac 40 is ls:=rfl
theorem O1(is:List Int)(ls:List LL):bF 44 is ls=ac 41 is ls:=rfl
theorem O2(is:List Int)(ls:List LL):bF 45 is ls=ac 42 is ls:=rfl
theorem O3(is:List Int)(ls:List LL):bF 46 is ls=ac 43 is ls:=rfl
theorem O4(is:List Int)(ls:List LL):bF 47 is ls=ac 44 is ls:=rfl
theorem O5(is:List Int)(ls:List LL):bF 48 is ls=ac 45 is ls:=rfl
theorem O6(is:List Int)(ls:List LL):bF 49 is ls=ac 46 is ls:=rfl
theorem O7(is:List Int)(ls:List LL):bF 50 is ls=ac 47 is ls:=rfl
theorem xw(is:List Int)(ls:List LL):bF 51 is ls=ac 48 is ls:=rfl
theorem O8(is:List Int)(ls:List LL):bF 52 is ls=ac 49 is ls:=rfl
theorem cq{n:Int}(h: -9223372036854775808≤n∧n≤9223372036854775807):IntKind.i64.wrap n=n:=by rw[IntKind.wrap_i64];omega
theorem aar{x y:Int}(h:x≤y):max x y=y:=by omega
theorem aas{x y:Int}(h:y≤x):max x y=x:=by omega
theorem aat(a b:Int):(bv .lss a b=true)=(a<b):=by simp[bv]
theorem aau(a b:Int):(bv .leq a b=true)=(a≤b):=by simp[bv]
theorem aav(a b:Int):(bv .gtr a b=true)=(b<a):=by simp[bv]
theorem aaw(a b:Int):(bv .geq a b=true)=(b≤a):=by simp[bv]
theorem aax(a b:Int):(bv .eql a b=true)=(a=b):=by simp[bv]
theorem aay(a b:Int):(bv .neq a b=true)=(a≠b):=by simp[bv]
theorem aaz(a:Bool):((!a)=true)=¬(a=true):=by simp
theorem ab0(p:Prop)[Decidable p](a b:Bool):((if p then a else b)=true)=if p then a=true else b=true:=by split<;>rfl
theorem Yn(p q:Prop)[Decidable p]:(if p then True else q)=(p∨q):=by
 by_cases h:p<;>simp[h]
theorem Yo(p q:Prop)[Decidable p]:(if p then q else False)=(p∧q):=by
 by_cases h:p<;>simp[h]
@[grind =] theorem O9(k:Nat):bE 0 k=false:=by unfold bE;simp
theorem pig:∀(n m:Nat) (f:Nat→Int),(∀a,a<m→0≤f a∧f a<n)→(∀a b,a<m→b<m→f a=f b→a=b)→m≤n
 |0,m,f,h,_=>by
  rcases Nat.eq_zero_or_pos m with h0|h0
  ·omega
  ·have:=h 0 h0;omega
 |n+1,m,f,h,hi=>by
  by_cases hx:∃a0,a0<m∧f a0=n
  ·obtain⟨a0,h1,h2⟩:=hx
   have:=pig n (m-1) (fun a=>if a<a0 then f a else f (a+1))
    (fun a ha=>by
      show 0≤(if a<a0 then f a else f (a+1))∧(if a<a0 then f a else f (a+1))<n
      split
      ·rename_i hlt
       have h3:=h a (by omega)
       have:f a≠n:=fun e=>by have:=hi a a0 (by omega) h1 (by omega);omega
       omega
      ·rename_i hlt
       have h3:=h (a+1) (by omega)
       have:f (a+1)≠n:=fun e=>by have:=hi (a+1) a0 (by omega) h1 (by omega);omega
       omega)
    (fun a b ha hb e=>by
      split at e<;>split at e
      ·exact hi a b (by omega) (by omega) e
      ·have:=hi a (b+1) (by omega) (by omega) e;omega
      ·have:=hi (a+1) b (by omega) (by omega) e;omega
      ·have:=hi (a+1) (b+1) (by omega) (by omega) e;omega)
   omega
  ·have:=pig n m f (fun a ha=>by
    have h3:=h a ha
    have:f a≠n:=fun e=>hx ⟨a,ha,e⟩
    omega) hi
   omega
theorem afp{m n x:Int}{l:LL}(h:ft [m,n] [l])(hx:0≤x)(hn:x<n)(hno:∀a:Nat,(a:Int)<m→l a 0≠x):m+1≤n:=by
 obtain⟨h0,h1,h2,h3⟩:=h
 have:=pig n.toNat (m.toNat+1) (fun a=>if a<m.toNat then l a 0 else x)
  (fun a ha=>by
    show 0≤(if a<m.toNat then l a 0 else x)∧(if a<m.toNat then l a 0 else x)<n.toNat
    split
    ·have:=h2 a (by omega);omega
    ·omega)
  (fun a b ha hb e=>by
    split at e<;>split at e
    ·exact h3 a b (by omega) (by omega) e
    ·exact absurd e (hno a (by omega))
    ·exact absurd e.symm (hno b (by omega))
    ·omega)
 omega
theorem CZ(n:Nat)(h:n<2 ^ 64):IntKind.u64.wrap (n:Int)=n:=by
 have h1:(n:Int) % (2 ^ 64:Int)=n:=Int.emod_eq_of_lt (by omega) (by exact_mod_cast h)
 simp only[IntKind.wrap,IntKind.bits,IntKind.signed,Bool.false_and,Bool.false_eq_true,if_false,h1]
theorem dR(x:Int)(h0:0≤x)(h1:x<2 ^ 64):(BitVec.ofInt 64 x).toNat=x.toNat:=by
 rw[BitVec.toNat_ofInt];omega
theorem jf{op:BinOp}{x y:Int}:∃m:Nat,m<2 ^ 64∧aQ op .u64 x y=m∧
 ((op=.and→m=((BitVec.ofInt 64 x)&&&(BitVec.ofInt 64 y)).toNat)∧(op=.or→m=((BitVec.ofInt 64 x)|||(BitVec.ofInt 64 y)).toNat)∧(op=.xor→m=((BitVec.ofInt 64 x) ^^^ (BitVec.ofInt 64 y)).toNat)∧(op=.andNot→m=((BitVec.ofInt 64 x)&&&~~~(BitVec.ofInt 64 y)).toNat)):=by
 unfold aQ
 have hb:IntKind.u64.bits=64:=rfl
 cases op<;>refine⟨_,?_,CZ _ ?_,?_⟩<;>first
  |exact BitVec.isLt _
  |(refine⟨?_,?_,?_,?_⟩<;>intro h<;>first|rfl|cases h)
theorem ew(op:BinOp)(x y:Int):0≤aQ op .u64 x y∧aQ op .u64 x y<18446744073709551616:=by
 obtain⟨m,h1,h2,_⟩:=jf (op:=op) (x:=x) (y:=y)
 rw[h2];omega
theorem Yp{x y:Int}(h0:0≤x)(h1:x<18446744073709551616)(h2:0≤y)(h3:y<18446744073709551616)(k:Nat):bE (aQ .or .u64 x y) k=(bE x k||bE y k):=by
 obtain⟨m,_,h5,_,h6,_⟩:=jf (op:=.or) (x:=x) (y:=y)
 unfold bE at*;rw[h5,Int.toNat_natCast,h6 rfl,BitVec.toNat_or,Nat.testBit_or,dR x h0 h1,dR y h2 h3]
theorem HP{x y:Int}(h0:0≤x)(h1:x<18446744073709551616)(h2:0≤y)(h3:y<18446744073709551616)(k:Nat):bE (aQ .and .u64 x y) k=(bE x k&&bE y k):=by
 obtain⟨m,_,h5,h6,_⟩:=jf (op:=.and) (x:=x) (y:=y)
 unfold bE at*;rw[h5,Int.toNat_natCast,h6 rfl,BitVec.toNat_and,Nat.testBit_and,dR x h0 h1,dR y h2 h3]
theorem ada{x y:Int}(h0:0≤x)(h1:x<18446744073709551616)(h2:0≤y)(h3:y<18446744073709551616)(k:Nat):bE (aQ .xor .u64 x y) k=(bE x k ^^ bE y k):=by
 obtain⟨m,_,h5,_,_,h6,_⟩:=jf (op:=.xor) (x:=x) (y:=y)
 unfold bE at*;rw[h5,Int.toNat_natCast,h6 rfl,BitVec.toNat_xor,Nat.testBit_xor,dR x h0 h1,dR y h2 h3]
theorem Pr{x y:Int}(h0:0≤x)(h1:x<18446744073709551616)(k:Nat)(h:bE (aQ .andNot .u64 x y) k=true):bE x k=true:=by
 obtain⟨m,_,h5,_,_,_,h6⟩:=jf (op:=.andNot) (x:=x) (y:=y)
 unfold bE at*;rw[h5,Int.toNat_natCast,h6 rfl,BitVec.toNat_and,Nat.testBit_and,dR x h0 h1,Bool.and_eq_true]at h
 exact h.1
theorem afq{y:Int}(h0:0≤y)(h1:y<64):n5 .u64 1 y=((2 ^ y.toNat:Nat):Int):=by
 unfold n5
 have hb:IntKind.u64.bits=64:=rfl
 have:min y.toNat 64=y.toNat:=by omega
 rw[hb,this,Int.one_mul]
 have hlt:2 ^ y.toNat<2 ^ 64:=Nat.pow_lt_pow_right (by omega) (by omega)
 have:=CZ (2 ^ y.toNat) hlt
 rw[←this];congr 1
theorem nQ{y:Int}(h0:0≤y)(h1:y<64):0≤n5 .u64 1 y∧n5 .u64 1 y<18446744073709551616:=by
 rw[afq h0 h1]
 have hlt:2 ^ y.toNat<2 ^ 64:=Nat.pow_lt_pow_right (by omega) (by omega)
 generalize 2 ^ y.toNat=m at hlt
 omega
theorem xy{y:Int}(h0:0≤y)(h1:y<64)(k:Nat):bE (n5 .u64 1 y) k=decide (y.toNat=k):=by
 unfold bE;rw[afq h0 h1,Int.toNat_natCast,Nat.testBit_two_pow]
theorem HQ{x:Int}(h0:0≤x)(h1:x<18446744073709551616):aQ .and .u64 x 0=0:=by
 have h2:=ew .and x 0
 have:(aQ .and .u64 x 0).toNat=0:=by
  apply Nat.eq_of_testBit_eq
  intro k
  show bE (aQ .and .u64 x 0) k=_
  rw[HP h0 h1 (by omega) (by omega)];simp[bE]
 omega
theorem a7o{x y:Int}(hx:0≤x)(hx1:x<18446744073709551616)(h0:0≤y)(h1:y<64)(h:aQ .and .u64 x (n5 .u64 1 y)≠0):bE x y.toNat=true:=by
 have hr:=nQ h0 h1
 by_cases hb:bE x y.toNat=true
 ·exact hb
 ·exfalso
  apply h
  have h2:=ew .and x (n5 .u64 1 y)
  have:(aQ .and .u64 x (n5 .u64 1 y)).toNat=0:=by
   apply Nat.eq_of_testBit_eq
   intro k
   show bE (aQ .and .u64 x (n5 .u64 1 y)) k=_
   rw[HP hx hx1 hr.1 hr.2,xy h0 h1,Nat.zero_testBit]
   by_cases hk:y.toNat=k
   ·subst hk;simp[hb]
   ·simp[hk]
  omega
theorem tK{r x n:Int}{l:LL}(h1:ac 8 [r,aQ .xor .u64 18446744073709551615 x,0] [])(h2:ac 21 [n,x] [l])(hne:r≠ -1):0≤r∧r<n∧l r.toNat 9=1∧l r.toNat 10=1∧l r.toNat 1=0:=by
 simp only[ac,eA]at h1
 simp only[ac,Pa]at h2
 rcases h1 with h1|⟨h0,h64,hb,_⟩
 ·exact absurd h1 hne
 rw[ada (by omega) (by omega) h2.1.1 h2.1.2]at hb
 have ha:bE 18446744073709551615 r.toNat=true:=by
  unfold bE
  have:(18446744073709551615:Int).toNat=2 ^ 64-1:=rfl
  rw[this,Nat.testBit_two_pow_sub_one]
  simp;omega
 rw[ha]at hb
 have hx:bE x r.toNat=true:=by simpa using hb
 have:=h2.2 _ hx
 exact⟨h0,by omega,this.2.1,this.2.2.1,this.2.2.2⟩
theorem Oa(x:Int):0≤aQ .and .u32 x 15∧aQ .and .u32 x 15<16:=by
 have h:((BitVec.ofInt 32 x)&&&(BitVec.ofInt 32 15)).toNat<16:=by
  rw[BitVec.toNat_and]
  have:(BitVec.ofInt 32 15).toNat=15:=by decide
  rw[this]
  exact Nat.lt_of_le_of_lt Nat.and_le_right (by decide)
 have e:aQ .and .u32 x 15=IntKind.u32.wrap ((((BitVec.ofInt 32 x)&&&(BitVec.ofInt 32 15)).toNat:Nat):Int):=rfl
 rw[e,IntKind.wrap_u32]
 omega
theorem nq(x:Int):0≤aQ .and .i64 x 63∧aQ .and .i64 x 63≤63:=by
 have h:((BitVec.ofInt 64 x)&&&(BitVec.ofInt 64 63)).toNat≤63:=by
  rw[BitVec.toNat_and]
  have:(BitVec.ofInt 64 63).toNat=63:=by decide
  rw[this]
  exact Nat.and_le_right
 have e:aQ .and .i64 x 63=IntKind.i64.wrap ((((BitVec.ofInt 64 x)&&&(BitVec.ofInt 64 63)).toNat:Nat):Int):=rfl
 rw[e,IntKind.wrap_i64]
 omega
theorem Yq(x:Int):0≤aQ .and .i64 x 15∧aQ .and .i64 x 15≤15:=by
 have h:((BitVec.ofInt 64 x)&&&(BitVec.ofInt 64 15)).toNat≤15:=by
  rw[BitVec.toNat_and]
  have:(BitVec.ofInt 64 15).toNat=15:=by decide
  rw[this]
  exact Nat.and_le_right
 have e:aQ .and .i64 x 15=IntKind.i64.wrap ((((BitVec.ofInt 64 x)&&&(BitVec.ofInt 64 15)).toNat:Nat):Int):=rfl
 rw[e,IntKind.wrap_i64]
 omega
theorem oB(x:Int):0≤IntKind.i64.wrap ((IntKind.u64.wrap x).tmod 2)∧IntKind.i64.wrap ((IntKind.u64.wrap x).tmod 2)<2:=by
 have h:0≤IntKind.u64.wrap x:=by
  simp only[IntKind.wrap,IntKind.bits,IntKind.signed,Bool.false_and,Bool.false_eq_true,if_false]
  omega
 generalize IntKind.u64.wrap x=y at*
 rw[Int.tmod_eq_emod_of_nonneg h,IntKind.wrap_i64]
 omega
theorem dN(x:Int):0≤IntKind.u8.wrap x∧IntKind.u8.wrap x<256:=by
 simp only[IntKind.wrap,IntKind.bits,IntKind.signed];(try simp);omega
theorem rZ(x y:Int):IntKind.i64.wrap (IntKind.i64.wrap (2+IntKind.i64.wrap (IntKind.u8.wrap x))+n5 .i64 (IntKind.i64.wrap (IntKind.u8.wrap y)) 8)=2+IntKind.u8.wrap x+256*IntKind.u8.wrap y:=by
 have h1:=dN x
 have h2:=dN y
 generalize IntKind.u8.wrap x=a at*
 generalize IntKind.u8.wrap y=b at*
 have e:∀z:Int,0≤z→z<1000000→IntKind.i64.wrap z=z:=fun z h1 h2=>by simp[IntKind.wrap,IntKind.bits,IntKind.signed];omega
 rw[e a (by omega) (by omega),e b (by omega) (by omega),e (2+a) (by omega) (by omega)]
 have:n5 .i64 b 8=b*256:=by
  show IntKind.i64.wrap (b*2 ^ (8:Int).toNat)=_
  rw[e]
  ·rfl
  ·have:(2:Int) ^ (8:Int).toNat=256:=by decide
   rw[this];omega
  ·have:(2:Int) ^ (8:Int).toNat=256:=by decide
   rw[this];omega
 rw[this,e _ (by omega) (by omega)];omega
instance (n:Nat):OfNat IE n:=⟨.var n⟩
instance (n:Nat):OfNat BE n:=⟨.var n⟩
instance (n:Nat):OfNat E.LE n:=⟨.var n⟩
theorem afr(n:Nat):(OfNat.ofNat n:IE)=.var n:=rfl
theorem afs(n:Nat):(OfNat.ofNat n:BE)=.var n:=rfl
theorem aft(n:Nat):(OfNat.ofNat n:E.LE)=.var n:=rfl
def gx(l:E.LE)(i:IE)(c:Nat):IE:=.get l i c
def ux(l:E.LE)(i:IE)(c:Nat)(e:IE):E.LE:=.upd l i c e
def wx(e:IE):IE:=.wrap .i64 e
def fb(b:BE):F:=.be b
def rx(r:Nat)(is:List IE)(ls:List E.LE):F:=.rel r is ls
def nx(b:BE):BE:=.not b
def ix(a b c:BE):BE:=.ite a b c
def ex(a b:IE):BE:=.cmp .eql a b
def lx(a b:IE):BE:=.cmp .lss a b
def jx(a b:IE):BE:=.cmp .leq a b
theorem mcI(f:IE→Int)(a:IE)(l:List IE):(a::l).map f=f a::l.map f:=rfl
theorem mnI(f:IE→Int):([]:List IE).map f=[]:=rfl
theorem mcL(f:E.LE→LL)(a:E.LE)(l:List E.LE):(a::l).map f=f a::l.map f:=rfl
theorem mnL(f:E.LE→LL):([]:List E.LE).map f=[]:=rfl
theorem faN(p q:Nat→Prop):(∀x,p x∧q x)↔(∀x,p x)∧∀x,q x:=forall_and
theorem au{g:List F}{f:F}{l:dU}(h:∀ρ,ar ρ g→f.holds ρ)(hl:ab l):ab ((g,f)::l):=ab.cons h hl
theorem a5t{l m:dU}(h:ab l)(hm:ab m):ab (l++m):=fun x hx=>(List.mem_append.1 hx).elim (h x) (hm x)
theorem vS:(type_of% @v.eq_1)∧(type_of% @c.eq_1)∧(type_of% @leq.eq_1)∧(type_of% @lss.eq_1)∧(type_of% @eql.eq_1)∧(type_of% @afr)∧(type_of% @afs)∧(type_of% @aft)∧(type_of% @gx.eq_1)∧(type_of% @ux.eq_1)∧(type_of% @wx.eq_1)∧(type_of% @fb.eq_1)∧(type_of% @rx.eq_1)∧(type_of% @nx.eq_1)∧(type_of% @ix.eq_1)∧(type_of% @ex.eq_1)∧(type_of% @lx.eq_1)∧(type_of% @jx.eq_1)∧(type_of% @mcI)∧(type_of% @mnI)∧(type_of% @mcL)∧(type_of% @mnL)∧(type_of% @and_true)∧(type_of% @true_and)∧(type_of% @Bool.false_eq_true)∧(type_of% @Int.toNat_zero)∧(type_of% @Int.toNat_natCast)∧(type_of% @aa)∧(type_of% @ve)∧(type_of% @fC)∧(type_of% @bD)∧(type_of% @aa8)∧(type_of% @aa9)∧(type_of% @tn)∧(type_of% @aaa)∧(type_of% @aab)∧(type_of% @aac)∧(type_of% @Xo)∧(type_of% @Nb)∧(type_of% @aae)∧(type_of% @aaf)∧(type_of% @aag)∧(type_of% @tz)∧(type_of% @Xz)∧(type_of% @Nh)∧(type_of% @Ni)∧(type_of% @aat)∧(type_of% @aau)∧(type_of% @aav)∧(type_of% @aaw)∧(type_of% @aax)∧(type_of% @aay)∧(type_of% @aaz)∧(type_of% @ab0)∧(type_of% @Yn)∧(type_of% @Yo)∧(type_of% @ae)∧(type_of% @eh)∧(type_of% @Yd)∧(type_of% @Ye)∧(type_of% @Yf)∧(type_of% @Yg)∧(type_of% @Yh)∧(type_of% @Yi)∧(type_of% @Yj)∧(type_of% @Yk)∧(type_of% @Yl)∧(type_of% @Ym)∧(type_of% @Nv)∧(type_of% @xu)∧(type_of% @Nw)∧(type_of% @Nx)∧(type_of% @Ny)∧(type_of% @Nz)∧(type_of% @NA)∧(type_of% @NB)∧(type_of% @NC)∧(type_of% @ND)∧(type_of% @NE)∧(type_of% @xv)∧(type_of% @NF)∧(type_of% @NG)∧(type_of% @NH)∧(type_of% @NI)∧(type_of% @NJ)∧(type_of% @NK)∧(type_of% @NL)∧(type_of% @NM)∧(type_of% @NN)∧(type_of% @NO)∧(type_of% @NP)∧(type_of% @NQ)∧(type_of% @NR)∧(type_of% @NS)∧(type_of% @NT)∧(type_of% @NU)∧(type_of% @NV)∧(type_of% @NW)∧(type_of% @NX)∧(type_of% @NY)∧(type_of% @NZ)∧(type_of% @O0)∧(type_of% @O1)∧(type_of% @O2)∧(type_of% @O3)∧(type_of% @O4)∧(type_of% @O5)∧(type_of% @O6)∧(type_of% @O7)∧(type_of% @xw)∧(type_of% @O8):=
 ⟨@v.eq_1,@c.eq_1,@leq.eq_1,@lss.eq_1,@eql.eq_1,@afr,@afs,@aft,@gx.eq_1,@ux.eq_1,@wx.eq_1,@fb.eq_1,@rx.eq_1,@nx.eq_1,@ix.eq_1,@ex.eq_1,@lx.eq_1,@jx.eq_1,@mcI,@mnI,@mcL,@mnL,@and_true,@true_and,@Bool.false_eq_true,@Int.toNat_zero,@Int.toNat_natCast,@aa,@ve,@fC,@bD,@aa8,@aa9,@tn,@aaa,@aab,@aac,@Xo,@Nb,@aae,@aaf,@aag,@tz,@Xz,@Nh,@Ni,@aat,@aau,@aav,@aaw,@aax,@aay,@aaz,@ab0,@Yn,@Yo,@ae,@eh,@Yd,@Ye,@Yf,@Yg,@Yh,@Yi,@Yj,@Yk,@Yl,@Ym,@Nv,@xu,@Nw,@Nx,@Ny,@Nz,@NA,@NB,@NC,@ND,@NE,@xv,@NF,@NG,@NH,@NI,@NJ,@NK,@NL,@NM,@NN,@NO,@NP,@NQ,@NR,@NS,@NT,@NU,@NV,@NW,@NX,@NY,@NZ,@O0,@O1,@O2,@O3,@O4,@O5,@O6,@O7,@xw,@O8⟩
theorem vR:(type_of% @ac.eq_1)∧(type_of% @ac.eq_2)∧(type_of% @ac.eq_3)∧(type_of% @ac.eq_4)∧(type_of% @ac.eq_5)∧(type_of% @ac.eq_6)∧(type_of% @ac.eq_7)∧(type_of% @ac.eq_8)∧(type_of% @ac.eq_9)∧(type_of% @ac.eq_10)∧(type_of% @ac.eq_11)∧(type_of% @ac.eq_12)∧(type_of% @ac.eq_13)∧(type_of% @ac.eq_14)∧(type_of% @ac.eq_15)∧(type_of% @ac.eq_16)∧(type_of% @ac.eq_17)∧(type_of% @ac.eq_18)∧(type_of% @ac.eq_19)∧(type_of% @ac.eq_20)∧(type_of% @ac.eq_21)∧(type_of% @ac.eq_22)∧(type_of% @ac.eq_23)∧(type_of% @ac.eq_24)∧(type_of% @ac.eq_25)∧(type_of% @ac.eq_26)∧(type_of% @ac.eq_27)∧(type_of% @ac.eq_28)∧(type_of% @ac.eq_29)∧(type_of% @ac.eq_30)∧(type_of% @ac.eq_31)∧(type_of% @ac.eq_32)∧(type_of% @ac.eq_33)∧(type_of% @ac.eq_34)∧(type_of% @ac.eq_35)∧(type_of% @ac.eq_36)∧(type_of% @ac.eq_37)∧(type_of% @ac.eq_38)∧(type_of% @ac.eq_39)∧(type_of% @ac.eq_40)∧(type_of% @ac.eq_41)∧(type_of% @ac.eq_42)∧(type_of% @ac.eq_43)∧(type_of% @ac.eq_44)∧(type_of% @ac.eq_45)∧(type_of% @ac.eq_46)∧(type_of% @ac.eq_47)∧(type_of% @ac.eq_48)∧(type_of% @ac.eq_49)∧(type_of% @ac.eq_50)∧(type_of% @eT.eq_1)∧(type_of% @CL.eq_1)∧(type_of% @XA.eq_1)∧(type_of% @cV.eq_1)∧(type_of% @ft.eq_1)∧(type_of% @CM.eq_1)∧(type_of% @CN.eq_1)∧(type_of% @nN.eq_1)∧(type_of% @eA.eq_1)∧(type_of% @inv.eq_1)∧(type_of% @fM.eq_1)∧(type_of% @BH.eq_1)∧(type_of% @ot.eq_1)∧(type_of% @aV.eq_1)∧(type_of% @ac1.eq_1)∧(type_of% @ac2.eq_1)∧(type_of% @CO.eq_1)∧(type_of% @XB.eq_1)∧(type_of% @XC.eq_1)∧(type_of% @tA.eq_1)∧(type_of% @ready.eq_1)∧(type_of% @Pa.eq_1)∧(type_of% @Hv.eq_1)∧(type_of% @tB.eq_1)∧(type_of% @eU.eq_1)∧(type_of% @gL.eq_1)∧(type_of% @tC.eq_1)∧(type_of% @Hw.eq_1)∧(type_of% @nO.eq_1)∧(type_of% @cW.eq_1)∧(type_of% @gV.eq_1)∧(type_of% @eV.eq_1)∧(type_of% @XD.eq_1)∧(type_of% @tD.eq_1)∧(type_of% @tE.eq_1)∧(type_of% @gM.eq_1)∧(type_of% @xi.eq_1)∧(type_of% @phs.eq_1)∧(type_of% @CP.eq_1)∧(type_of% @XF.eq_1)∧(type_of% @tF.eq_1)∧(type_of% @nnL.eq_1)∧(type_of% @XG.eq_1)∧(type_of% @phL.eq_1)∧(type_of% @Pb.eq_1)∧(type_of% @dH.eq_1)∧(type_of% @kQ.eq_1)∧(type_of% @iT.eq_1)∧(type_of% @BL.eq_1)∧(type_of% @CQ.eq_1)∧(type_of% @aC.eq_1)∧(type_of% @fR.eq_1)∧(type_of% @xh.eq_1)∧(type_of% @a7n):=
 ⟨@ac.eq_1,@ac.eq_2,@ac.eq_3,@ac.eq_4,@ac.eq_5,@ac.eq_6,@ac.eq_7,@ac.eq_8,@ac.eq_9,@ac.eq_10,@ac.eq_11,@ac.eq_12,@ac.eq_13,@ac.eq_14,@ac.eq_15,@ac.eq_16,@ac.eq_17,@ac.eq_18,@ac.eq_19,@ac.eq_20,@ac.eq_21,@ac.eq_22,@ac.eq_23,@ac.eq_24,@ac.eq_25,@ac.eq_26,@ac.eq_27,@ac.eq_28,@ac.eq_29,@ac.eq_30,@ac.eq_31,@ac.eq_32,@ac.eq_33,@ac.eq_34,@ac.eq_35,@ac.eq_36,@ac.eq_37,@ac.eq_38,@ac.eq_39,@ac.eq_40,@ac.eq_41,@ac.eq_42,@ac.eq_43,@ac.eq_44,@ac.eq_45,@ac.eq_46,@ac.eq_47,@ac.eq_48,@ac.eq_49,@ac.eq_50,@eT.eq_1,@CL.eq_1,@XA.eq_1,@cV.eq_1,@ft.eq_1,@CM.eq_1,@CN.eq_1,@nN.eq_1,@eA.eq_1,@inv.eq_1,@fM.eq_1,@BH.eq_1,@ot.eq_1,@aV.eq_1,@ac1.eq_1,@ac2.eq_1,@CO.eq_1,@XB.eq_1,@XC.eq_1,@tA.eq_1,@ready.eq_1,@Pa.eq_1,@Hv.eq_1,@tB.eq_1,@eU.eq_1,@gL.eq_1,@tC.eq_1,@Hw.eq_1,@nO.eq_1,@cW.eq_1,@gV.eq_1,@eV.eq_1,@XD.eq_1,@tD.eq_1,@tE.eq_1,@gM.eq_1,@xi.eq_1,@phs.eq_1,@CP.eq_1,@XF.eq_1,@tF.eq_1,@nnL.eq_1,@XG.eq_1,@phL.eq_1,@Pb.eq_1,@dH.eq_1,@kQ.eq_1,@iT.eq_1,@BL.eq_1,@CQ.eq_1,@aC.eq_1,@fR.eq_1,@xh.eq_1,@a7n⟩
theorem vL:(type_of% @ac.eq_1)∧(type_of% @ac.eq_2)∧(type_of% @ac.eq_3)∧(type_of% @ac.eq_4)∧(type_of% @ac.eq_6)∧(type_of% @ac.eq_7)∧(type_of% @ac.eq_8)∧(type_of% @ac.eq_9)∧(type_of% @ac.eq_17)∧(type_of% @ac.eq_18)∧(type_of% @ac.eq_19)∧(type_of% @ac.eq_20)∧(type_of% @ac.eq_21)∧(type_of% @ac.eq_22)∧(type_of% @ac.eq_23)∧(type_of% @ac.eq_27)∧(type_of% @ac.eq_28)∧(type_of% @ac.eq_29)∧(type_of% @ac.eq_35)∧(type_of% @ac.eq_36)∧(type_of% @ac.eq_37)∧(type_of% @ac.eq_38)∧(type_of% @ac.eq_39)∧(type_of% @ac.eq_40)∧(type_of% @ac.eq_42)∧(type_of% @ac.eq_44)∧(type_of% @ac.eq_45)∧(type_of% @ac.eq_46)∧(type_of% @ac.eq_47)∧(type_of% @ac.eq_48)∧(type_of% @ac.eq_49)∧(type_of% @ac.eq_50)∧(type_of% @eT.eq_1)∧(type_of% @CL.eq_1)∧(type_of% @XA.eq_1)∧(type_of% @cV.eq_1)∧(type_of% @CM.eq_1)∧(type_of% @CN.eq_1)∧(type_of% @nN.eq_1)∧(type_of% @eA.eq_1)∧(type_of% @CO.eq_1)∧(type_of% @XB.eq_1)∧(type_of% @XC.eq_1)∧(type_of% @tA.eq_1)∧(type_of% @ready.eq_1)∧(type_of% @Pa.eq_1)∧(type_of% @Hv.eq_1)∧(type_of% @tC.eq_1)∧(type_of% @Hw.eq_1)∧(type_of% @nO.eq_1)∧(type_of% @tE.eq_1)∧(type_of% @gM.eq_1)∧(type_of% @xi.eq_1)∧(type_of% @phs.eq_1)∧(type_of% @CP.eq_1)∧(type_of% @XF.eq_1)∧(type_of% @nnL.eq_1)∧(type_of% @phL.eq_1)∧(type_of% @Pb.eq_1)∧(type_of% @dH.eq_1)∧(type_of% @kQ.eq_1)∧(type_of% @iT.eq_1)∧(type_of% @BL.eq_1)∧(type_of% @CQ.eq_1)∧(type_of% @a7n):=
 ⟨@ac.eq_1,@ac.eq_2,@ac.eq_3,@ac.eq_4,@ac.eq_6,@ac.eq_7,@ac.eq_8,@ac.eq_9,@ac.eq_17,@ac.eq_18,@ac.eq_19,@ac.eq_20,@ac.eq_21,@ac.eq_22,@ac.eq_23,@ac.eq_27,@ac.eq_28,@ac.eq_29,@ac.eq_35,@ac.eq_36,@ac.eq_37,@ac.eq_38,@ac.eq_39,@ac.eq_40,@ac.eq_42,@ac.eq_44,@ac.eq_45,@ac.eq_46,@ac.eq_47,@ac.eq_48,@ac.eq_49,@ac.eq_50,@eT.eq_1,@CL.eq_1,@XA.eq_1,@cV.eq_1,@CM.eq_1,@CN.eq_1,@nN.eq_1,@eA.eq_1,@CO.eq_1,@XB.eq_1,@XC.eq_1,@tA.eq_1,@ready.eq_1,@Pa.eq_1,@Hv.eq_1,@tC.eq_1,@Hw.eq_1,@nO.eq_1,@tE.eq_1,@gM.eq_1,@xi.eq_1,@phs.eq_1,@CP.eq_1,@XF.eq_1,@nnL.eq_1,@phL.eq_1,@Pb.eq_1,@dH.eq_1,@kQ.eq_1,@iT.eq_1,@BL.eq_1,@CQ.eq_1,@a7n⟩
theorem vQ:(type_of% @imp_and)∧(type_of% @faN):=
 ⟨@imp_and,@faN⟩
theorem dS{l:dU}(h:ab l:=by(repeat' (first|exact .nil|refine au ?_ ?_));all_goals(intro ρ h;simp only[vS,IE.den,BE.den,LE.den,IntKind.wrap_i64]at h⊢<;>omega)):ab l:=h
theorem s8{l:dU}(h:ab l:=by(repeat' (first|exact .nil|refine au ?_ ?_));all_goals(intro ρ h;simp only[vS,IE.den,BE.den,LE.den]at h⊢<;>grind)):ab l:=h
theorem qR{l:dU}(h:ab l:=by(repeat' (first|exact .nil|refine au ?_ ?_));all_goals(intro ρ h;simp only[vS,vR,vQ,IE.den,BE.den,LE.den]at h⊢<;>grind)):ab l:=h
theorem lm{l:dU}(h:ab l:=by(repeat' (first|exact .nil|refine au ?_ ?_));all_goals(intro ρ h;simp only[vS,vR,IE.den,BE.den,LE.den,IntKind.wrap_i64]at h⊢<;>omega)):ab l:=h
theorem va4{l:dU}(h:ab l:=by(repeat' (first|exact .nil|refine au ?_ ?_));all_goals(intro ρ h;simp only[vS,vR,vQ,IE.den,BE.den,LE.den]at h⊢<;>(try simp(disch:=omega) only[cq,Int.toNat_of_nonneg,Nat.add_zero,Int.sub_zero,Int.zero_add,aar,aas]at h⊢)<;>grind)):ab l:=h
theorem va6{l:dU}(h:ab l:=by(repeat' (first|exact .nil|refine au ?_ ?_));all_goals(intro ρ h;simp only[vS,vR,IE.den,BE.den,LE.den,IntKind.wrap_i64]at h⊢<;>intros<;>omega)):ab l:=h
theorem va7{l:dU}(h:ab l:=by(repeat' (first|exact .nil|refine au ?_ ?_));all_goals(intro ρ h;simp only[vS,vR,IE.den,BE.den,LE.den]at h⊢<;>intros<;>simp_all)):ab l:=h
theorem va8{l:dU}(h:ab l:=by(repeat' (first|exact .nil|refine au ?_ ?_));all_goals(intro ρ h;simp only[vS,vR,vQ,IE.den,BE.den,LE.den]at h⊢<;>(repeat' apply And.intro)<;>intros<;>grind)):ab l:=h
theorem va9{l:dU}(h:ab l:=by(repeat' (first|exact .nil|refine au ?_ ?_));all_goals(intro ρ h;simp only[vS,vR,vQ,IE.den,BE.den,LE.den]at h⊢<;>(try simp(disch:=omega) only[cq,Int.toNat_of_nonneg,Nat.add_zero,Int.sub_zero,Int.zero_add,aar,aas]at h⊢)<;>(repeat' apply And.intro)<;>intros<;>grind)):ab l:=h
theorem kj{l:dU}(h:ab l:=by(repeat' (first|exact .nil|refine au ?_ ?_));all_goals(intro ρ h;simp only[vS,vL,vQ,IE.den,BE.den,LE.den]at h⊢<;>grind)):ab l:=h
theorem alv{l:dU}(h:ab l:=by(repeat' (first|exact .nil|refine au ?_ ?_));all_goals(intro ρ h;simp only[vS,vL,vQ,IE.den,BE.den,LE.den]at h⊢<;>(try simp(disch:=omega) only[cq,Int.toNat_of_nonneg,Nat.add_zero,Int.sub_zero,Int.zero_add,aar,aas]at h⊢)<;>grind)):ab l:=h
def one(t:dt):T dt:=.lf t
def xl(f e:Nat)(ks:List CK):bg:=
 {f:=f,M:=1,args:=[.lst 0],H0:=[(.h 0,.row false (.lst e ks (v 0) (.var 0)))],pre:=[leq (c 0) (v 0),leq (v 0) (c 1000000)],N:=2,t:=.lf ⟨[eql (v 1) (v 0),.rel ac4 [v 0] [.var 1,.var 0]],[],.lst 1,[(.h 1,.row true (.lst e ks (v 1) (.var 1)))]⟩}
def xm:=xl 112 153 [ki,ki]
def Pc:=xl 20 3 [ki]
def Hz:=xl 21 56 [ki,ki,ki,ki,ki,ki,ki]
def HA:=xl 159 5 [.byte]
def HB(a:Nat)(l:Nat):SV:=.agg [iv a,iv (a+1),iv (a+2),.lst l]
def bx(l:Nat)(n:Nat):aO×aY:=(.h l,.row false (.lst 153 [ki,ki] (v n) (.var l)))
def atC:bg:=
 {f:=110,M:=10,args:=[HB 1 0,iv 5],H0:=[bx 0 0],pre:=[leq (c 0) (v 0),leq (v 0) (c 1000000)],N:=11,t:=.lf ⟨[.rel aee [v 10,v 0,v 5] [.var 0]],[],iv 10,[]⟩}
def aam:cj:=fun f r b=>bif Nat.beq f 166&&Nat.beq r 2 then some {items:=fun _=>[.ri 8],inv:=[.be fun n=> .cmp .leq (c 0) (v n),.be fun n=> .cmp .leq (v n) (v 0),.rel XH (fun n=>[v n,v 5]) (fun _=>[.var 0])],mes:=fun n=> .sub (v 0) (v n)}else none
def bJ(e:TypeId)(ks:List CK)(l n:Nat)(own:Bool:=false):aO×aY:=(.h l,.row own (.lst e ks (v n) (.var l)))
def a74:bg:=
 {f:=87,M:=1,args:=[.lst 0],H0:=[bJ 2 [ki] 0 0],pre:=[leq (c 0) (v 0),leq (v 0) (c 1000000)],N:=12,t:=.lf ⟨[],[],.tup [iv 10,.b (.var 10)],[]⟩}
def aeo:bg:=
 {f:=113,M:=10,args:=[HB 1 0],H0:=[bx 0 0],pre:=[leq (c 0) (v 0),leq (v 0) (c 1000000)],N:=12,t:=.lf ⟨[],[],iv 10,[]⟩}
def qx:cj:=fun f r b=>
 bif Nat.beq f 87&&Nat.beq r 3 then some {items:=fun _=>[.ri 12,.ri 4,.rb 5],inv:=co (bu b 11),mes:=fun n=> .sub (bu b 11) (v n)}
 else bif Nat.beq f 113&&Nat.beq r 3 then some {items:=fun _=>[.ri 11,.rl 3 true 2 [ki]],inv:=.be (fun n=> .cmp .eql (v (n+1)) (v n))::co (bu b 10),mes:=fun n=> .sub (bu b 10) (v n)}
 else bif Nat.beq f 60&&Nat.beq r 4 then some {items:=fun b=>[.cl (eu b 2) 3 false 153 [ki,ki],.rl 6 true 3 [ki]],inv:=[.rel ee (fun n=>[v n,v 8]) (fun n=>[.var n]),.rel Hx (fun n=>[v (n+1),v 8]) (fun n=>[.var (n+1)]),.be fun n=> .cmp .leq (c 0) (v n),.be fun n=> .cmp .leq (c 0) (v (n+1)),.be fun n=> .cmp .leq (.add (v n) (v (n+1))) (v 0)],mes:=fun n=>v n}
 else aam f r b
def agy:bg:=
 {f:=60,M:=10,args:=[HB 1 0,iv 5],H0:=[bx 0 0],pre:=[.rel ee [v 0,v 8] [.var 0],leq (c 0) (v 0),leq (v 0) (c 1000000)],N:=15,t:=.lf ⟨[.rel ee [v 11,v 8] [.var 11],.rel Hx [v 12,v 8] [.var 12],leq (c 0) (v 11),leq (c 0) (v 12),leq (.add (v 11) (v 12)) (v 0)],[],.tup [.agg [iv 10,iv 2,iv 3,.lst 11],.lst 12],[bx 11 11,bJ 3 [ki] 12 12 true]⟩}
def aca:bg:=
 {f:=172,M:=10,args:=[HB 1 0,iv 5,iv 7],H0:=[bx 0 0],pre:=[.rel ee [v 0,v 8] [.var 0],leq (c 0) (v 0),leq (v 0) (c 1000000),leq (c 0) (v 5),lss (v 5) (v 8)],N:=15,t:=.lf ⟨[.rel ee [v 11,v 8] [.var 11],leq (c 0) (v 11),leq (v 11) (v 8)],[],.tup [.agg [iv 1,iv 2,iv 3,.lst 11],iv 12],[bx 11 11]⟩}
def ov:bg:=
 {f:=111,M:=10,args:=[.lst 0,iv 5,iv 6],H0:=[bJ 153 [ki,ki] 0 0 true],pre:=[leq (c 0) (v 5),lss (v 5) (v 0),eql (v 6) (.add (v 5) (c 1)),leq (v 0) (c 1000000)],N:=15,t:=.lf ⟨[eql (v 11) (.sub (v 0) (c 1)),.rel a71 [v 5,v 11] [.var 11,.var 0]],[],.lst 11,[(.h 0,.gone),bx 11 11]⟩}
def aep:bg:=
 {f:=59,M:=10,args:=[HB 1 0,iv 5],H0:=[bx 0 0],pre:=[.rel ee [v 0,v 8] [.var 0],leq (c 0) (v 0),leq (v 0) (c 1000000)],N:=15,t:=.lf ⟨[.rel ee [v 11,v 8] [.var 11],.rel XH [v 11,v 5] [.var 11],.rel ac5 [v 11,v 0] [.var 11,.var 0],leq (c 0) (v 11),leq (v 11) (v 0)],[],.tup [.agg [iv 1,iv 2,iv 3,.lst 11],.b (.var 12)],[bx 11 11]⟩}
def iw(n:Nat):SV:=.int .u32 (.var n)
def iq(n:Nat):SV:=.int .u64 (.var n)
def kc(h l:Nat):SV:=.agg [iw h,.lst l]
def cI(l n:Nat)(own:Bool:=false):aO×aY:=bJ 72 [kw] l n own
def bc(n:Nat):List F:=[leq (c 0) (v n),leq (v n) (c 1000000)]
def agz:bg:={f:=149,M:=10,args:=[kc 1 0],H0:=[cI 0 0],pre:=bc 0,N:=12,t:=.lf ⟨[eql (v 11) (v 0)],[],kc 1 11,[cI 11 11 true]⟩}
def aeq:bg:={f:=101,M:=10,args:=[kc 1 0,iv 2,iv 3],H0:=[cI 0 0],pre:=bc 0,N:=14,t:=.lf ⟨[eql (v 11) (v 0)],[],.tup [kc 12 11,.b (.var 13)],[cI 11 11]⟩}
def ah0:bg:={f:=102,M:=10,args:=[kc 1 0,iv 2,iv 3,iv 4],H0:=[cI 0 0],pre:=bc 0,N:=14,t:=.lf ⟨[eql (v 11) (v 0)],[],.tup [kc 12 11,.b (.var 13)],[cI 11 11]⟩}
def aer:bg:={f:=78,M:=10,args:=[kc 1 0,iv 2,iv 3,.b (.var 4)],H0:=[cI 0 0],pre:=bc 0,N:=14,t:=.lf ⟨[eql (v 11) (v 0)],[],kc 12 11,[cI 11 11]⟩}
def dI:List Int:=[0,1,28,2,29,14,24,3,30,22,20,15,25,17,4,8,31,27,13,23,21,19,16,7,26,12,18,6,11,5,10,9]
def XS:aO×aY:=(.h 18,.row false (.glob 294 1 .u8 dI))
def np:List Int:=[0,1,56,2,57,49,28,3,61,58,42,50,38,29,17,4,62,47,59,36,45,43,51,22,53,39,33,30,24,18,12,5,63,55,48,27,60,41,37,16,46,35,44,21,52,32,23,11,54,26,40,15,34,20,31,10,25,14,19,9,13,8,7,6]
def g2H:aO×aY:=(.h 19,.row false (.glob 295 2 .u8 np))
def No:bg:={f:=214,M:=30,args:=[iw 1],H0:=[XS],pre:=[.be (.not (.cmp .eql (v 1) (c 0)))],N:=32,t:=.lf ⟨[leq (c 0) (v 31),leq (v 31) (c 31)],[],iv 31,[]⟩}
def HC:bg:={f:=169,M:=30,args:=[kc 1 0,iv 2,iv 3,iw 4],H0:=[cI 0 0,XS],pre:=bc 0,N:=32,t:=.lf ⟨[leq (c (-1)) (v 31),leq (v 31) (c 31)],[],iv 31,[]⟩}
def HE:bg:={f:=123,M:=10,args:=[.lst 0,iq 2,iq 3],H0:=[bJ 3 [ki] 0 0],pre:=bc 0++[leq (c 0) (v 2),lss (v 2) (c 18446744073709551616),leq (c 0) (v 3),lss (v 3) (c 18446744073709551616)],N:=12,t:=.lf ⟨[.rel xj [v 11,v 2,v 3] []],[],iv 11,[]⟩}
def Pd:bg:={f:=199,M:=10,args:=[iv 1,iv 2,iv 3],H0:=[],pre:=[],N:=12,t:=.lf ⟨[leq (c 0) (v 11),leq (v 11) (.mx (v 3) (c 1)),leq (v 11) (c 8)],[],iv 11,[]⟩}
theorem qE:∀(x:Nat),0<x→∃k q:Nat,x=2^(k+1)*q+2^k
 |x,hx=>by
  rcases Nat.mod_two_eq_zero_or_one x with h|h
  ·have hlt:x/2<x:=by omega
   obtain⟨k,q,e⟩:=qE (x/2) (by omega)
   refine⟨k+1,q,?_⟩
   have:x=2*(x/2):=by omega
   rw[this,e,Nat.mul_add,←Nat.mul_assoc]
   congr 1
   ·congr 1;rw[Nat.pow_succ 2 (k+1),Nat.mul_comm]
   ·rw[Nat.pow_succ,Nat.mul_comm]
  ·exact⟨0,x/2,by simp;omega⟩
termination_by x=>x
theorem Od{k q x n:Nat}(h:x=2^(k+1)*q+2^k)(hn:x<2^n):x&&&(2^n-x)=2^k:=by
 have hp:0<2^k:=Nat.two_pow_pos k
 have hlt:2^k<2^(k+1):=Nat.pow_lt_pow_right (by decide) (by omega)
 have h1:x-1=2^(k+1)*q+(2^k-1):=by omega
 have e:2^n-x=2^n-((x-1)+1):=by omega
 apply Nat.eq_of_testBit_eq
 intro j
 rw[Nat.testBit_and,e,Nat.testBit_two_pow_sub_succ (by omega),h1,Nat.testBit_two_pow_mul_add _ (by omega),Nat.testBit_two_pow_sub_one]
 conv=>lhs;rw[h]
 rw[Nat.testBit_two_pow_mul_add _ hlt,Nat.testBit_two_pow]
 have hkn:k<n:=by
  rcases Nat.lt_or_ge k n with h'|h'
  ·exact h'
  ·have:=Nat.pow_le_pow_right (n:=2) (by decide) h'
   omega
 by_cases hj:j<k+1
 ·simp only[hj,if_true]
  by_cases hjk:k=j
  ·subst hjk;simp[hkn]
  ·simp[hjk]
 ·have:¬k=j:=by omega
  simp only[hj,if_false,this,decide_false]
  cases q.testBit (j-(k+1))<;>simp
theorem a89{k q x:Nat}(h:x=2^(k+1)*q+2^k):x.testBit k=true:=by
 have hlt:2^k<2^(k+1):=Nat.pow_lt_pow_right (by decide) (by omega)
 rw[h,Nat.testBit_two_pow_mul_add _ hlt]
 simp
theorem kn{ρ:ap}{ie v:IE}:∀(l:List Int) (j d:Nat) (h:d<l.length),ie.den ρ=((j+d:Nat):Int)→(eJ ie v l j).den ρ=true→v.den ρ=l[d]
 |a::r,j,0,h,h1,h2=>by
  simp only[eJ,BE.den,bv,IE.den,h1]at h2
  simpa using h2
 |a::r,j,d+1,h,h1,h2=>by
  have hne:¬ie.den ρ=(j:Int):=by rw[h1];omega
  have hb:(ie.den ρ==(j:Int))=false:=by simpa using hne
  simp only[eJ,BE.den,bv,IE.den,hb]at h2
  exact kn r (j+1) d (by simpa using h) (by rw[h1];congr 1;omega) (by simpa using h2)
theorem YG{x:Int}(h0:0≤x)(h1:x<18446744073709551616)(hx:x≠0):∃k:Nat,k<64∧bE x k=true∧aQ .and .u64 x (IntKind.u64.wrap (0-x))=((2 ^ k:Nat):Int):=by
 obtain⟨X,rfl⟩:∃X:Nat,x=X:=⟨x.toNat,by omega⟩
 obtain⟨k,q,e⟩:=qE X (by omega)
 have hX:X<2 ^ 64:=by omega
 have hk:k<64:=by
  rcases Nat.lt_or_ge k 64 with h'|h'
  ·exact h'
  ·have:=Nat.pow_le_pow_right (n:=2) (by decide) h'
   omega
 refine⟨k,hk,?_,?_⟩
 ·show(X:Int).toNat.testBit k=true
  rw[Int.toNat_natCast];exact a89 e
 ·have hw:IntKind.u64.wrap (0-(X:Int))=((2 ^ 64-X:Nat):Int):=by
   simp only[IntKind.wrap,IntKind.bits,IntKind.signed,Bool.false_and,Bool.false_eq_true,if_false]
   omega
  obtain⟨m,h2,h3,h4,_⟩:=jf (op:=.and) (x:=(X:Int)) (y:=IntKind.u64.wrap (0-(X:Int)))
  rw[h3,h4 rfl,hw,BitVec.toNat_and,dR _ (by omega) (by omega),dR _ (by omega) (by omega),Int.toNat_natCast,Int.toNat_natCast,Od e hX]
theorem ag0(x:Int):aQ .and .u32 x (IntKind.u32.wrap (0-x))=0∨∃k:Nat,k<32∧aQ .and .u32 x (IntKind.u32.wrap (0-x))=((2 ^ k:Nat):Int):=by
 have hw:BitVec.ofInt 32 (IntKind.u32.wrap (0-x))= -BitVec.ofInt 32 x:=by
  rw[IntKind.wrap_u32]
  apply BitVec.eq_of_toInt_eq
  rw[BitVec.toInt_neg,BitVec.toInt_ofInt,BitVec.toInt_ofInt]
  simp only[Int.bmod_def]
  omega
 have e:aQ .and .u32 x (IntKind.u32.wrap (0-x))=IntKind.u32.wrap ((((BitVec.ofInt 32 x)&&&(BitVec.ofInt 32 (IntKind.u32.wrap (0-x)))).toNat:Nat):Int):=rfl
 rw[e,hw]
 obtain⟨B,hB⟩:∃B,BitVec.ofInt 32 x=B:=⟨_,rfl⟩
 rw[hB,BitVec.toNat_and,BitVec.toNat_neg]
 have hX:=B.isLt
 by_cases h0:B.toNat=0
 ·refine .inl ?_
  rw[h0]
  simp
  rfl
 ·refine .inr ?_
  obtain⟨k,q,e⟩:=qE B.toNat (by omega)
  have hk:k<32:=by
   rcases Nat.lt_or_ge k 32 with h'|h'
   ·exact h'
   ·have:=Nat.pow_le_pow_right (n:=2) (by decide) h'
    omega
  refine⟨k,hk,?_⟩
  have hm:(2 ^ 32-B.toNat) % 2 ^ 32=2 ^ 32-B.toNat:=Nat.mod_eq_of_lt (by omega)
  rw[hm,Od e hX]
  have hlt:2 ^ k<2 ^ 32:=Nat.pow_lt_pow_right (by decide) hk
  generalize 2 ^ k=m at*
  rw[IntKind.wrap_u32]
  omega
theorem oF:∀k:Nat,k<64→Wq .u64 (IntKind.u64.wrap (((2 ^ k:Nat):Int)*285870213051353865)) 58=(((2 ^ k*285870213051353865) % 2 ^ 64/2 ^ 58:Nat):Int)∧(np[(2 ^ k*285870213051353865) % 2 ^ 64/2 ^ 58]? =some (k:Int)):=by decide+kernel
theorem a8a:∀k:Nat,k<32→Wq .u32 (IntKind.u32.wrap (((2 ^ k:Nat):Int)*125613361)) 27=(((2 ^ k*125613361) % 2 ^ 32/2 ^ 27:Nat):Int)∧(dI[(2 ^ k*125613361) % 2 ^ 32/2 ^ 27]? =some (k:Int)):=by decide+kernel
theorem oG(x:Int):∃d:Nat,∃hd:d<dI.length,Wq .u32 (IntKind.u32.wrap (aQ .and .u32 x (IntKind.u32.wrap (0-x))*125613361)) 27=(d:Int)∧0≤dI[d]∧dI[d]≤31:=by
 have hb:∀d:Nat,∀hd:d<dI.length,0≤dI[d]∧dI[d]≤31:=by decide
 rcases ag0 x with h|⟨k,hk,h⟩
 ·rw[h]
  exact⟨0,by decide,by decide,by decide⟩
 ·rw[h]
  have hp:=a8a k hk
  obtain⟨hlt,_⟩:=List.getElem?_eq_some_iff.1 hp.2
  exact⟨_,hlt,hp.1,hb _ hlt⟩
def CT:List CK:=[ki,ki,ki,ki,ki,ki,ki,ki,ki,ki,ki,ki,.bool,.bool,ki]
def lu:List CK:=[ki,ki,ki,ki,ki,ki,kw,.int .i32,kw,ki]++List.replicate 131 ki
def aes(x:Nat):SV:=
 match x with
 |0=> .lst 5
 |3=> .lst 6
 |13=> .lst 7
 |14=> .lst 8
 |28=> .b (.var 128)
 |33=> .lst 9
 |37=> .lst 10
 |38=> .lst 11
 |39=> .lst 12
 |41=> .lst 13
 |42=> .b (.var 142)
 |45=>iw 145
 |46=> .lst 14
 |49=> .ptr (.at 4 0)
 |50=> .lst 15
 |x=>iv (100+x)
def aan(x:Nat):List (Nat×SV)→SV
 |[]=>aes x
 |(y,s)::r=>bif Nat.beq x y then s else aan x r
def acb(ch:List (Nat×SV)):List SV:=(List.range 51).map fun x=>aan x ch
def wH(ch:List (Nat×SV)):aO×aY:=(.h 1,.row true (.cells 88 (acb ch)))
def aT(l:Nat):aO×aY:=(.h 2,.row true (.fam 102 CT (v 8) (.var l)))
def bq(l:Nat):aO×aY:=(.h 3,.row true (.fam 134 lu (v 7) (.var l)))
def ke(a:Nat):aO×aY:=(.h 4,.row true (.cells 121 [iv a,iv (a+1),iv (a+2)]))
def ah1:af:=[bx 9 9,bx 10 10,bJ 5 [kb] 11 11,bJ 5 [kb] 12 12,bJ 5 [kb] 13 13,cI 14 14,bJ 3 [ki] 15 15]
def W:SV:=.ptr (.at 1 0)
def gN:F:=.rel rY [v 101,v 102,v 104,v 105,v 106,v 107,v 108,v 109,v 110,v 111,v 112,v 8,v 7,v 5,v 6] []
def iU(l:Nat)(mode at_:IE):F:=.rel un [v 8,v 101,v 104,v 105,v 112,v 7,v 102,mode,at_] [.var l]
def XT(l:Nat)(mode at_:IE):F:=.rel Nj [v 8,mode,at_] [.var l]
def a75(l0 l:Nat):F:=.rel a72 [v 8] [.var l0,.var l]
def ff(l:Nat):F:=.rel tG [v 7] [.var l]
def fN:List F:=[leq (c 0) (v 8),leq (v 8) (c 64)]
def aet:bg:={f:=62,M:=200,args:=[W],H0:=[wH [],aT 2,bJ 91 [.ptr 2] 8 8],pre:=fN,N:=202,t:=.lf ⟨[.imp (.not (.var 201)) (.rel ka [v 8] [.var 2]),.imp (.var 201) (.rel XM [v 8] [.var 2])],[],.b (.var 201),[]⟩}
def ah2:bg:={f:=57,M:=200,args:=[W,iv 150],H0:=[wH [],aT 2,bJ 91 [.ptr 2] 8 8],pre:=fN,N:=203,t:=.lf ⟨[.rel XI [v 8,v 8,v 150] [.var 202,.var 2]],[],.tup [],[wH [(43,.int .i64 (c (-1))),(44,.int .i64 (c 0))],aT 202]⟩}
def XU:cj:=fun f r b=>
 bif Nat.beq f 165&&Nat.beq r 2 then some {items:=fun _=>[.ri 8],inv:=.rel ka (fun n=>[v n]) (fun _=>[.var 2])::co (bu b 7),mes:=fun n=> .sub (bu b 7) (v n)}
 else qx f r b
def HF:cj:=fun f r b=>
 bif Nat.beq f 57&&Nat.beq r 1 then some {items:=fun _=>[.ri 11,.fm 2],inv:=.rel XI (fun n=>[v n,v 8,v 150]) (fun n=>[.var (n+1),.var 2])::co (bu b 10),mes:=fun n=> .sub (bu b 10) (v n)}
 else XU f r b
def CU(n:Nat):List F:=[leq (c 0) (v n),lss (v n) (c 18446744073709551616)]
def aeu:bg:={f:=170,M:=10,args:=[iq 1,iv 2],H0:=[],pre:=CU 1,N:=12,t:=.lf ⟨[.rel ac6 [v 11,v 1,v 2] []],[],iq 11,[]⟩}
def XV:bg:={f:=197,M:=10,args:=[iq 1,iv 2],H0:=[],pre:=CU 1,N:=12,t:=.lf ⟨[.rel aah [v 11,v 1] []],[],iq 11,[]⟩}
def ah3:bg:={f:=65,M:=10,args:=[iq 1,iv 2],H0:=[],pre:=CU 1,N:=12,t:=.lf ⟨[.imp (.var 11) (.rel aai [v 1,v 2] [])],[],.b (.var 11),[]⟩}
def aev:bg:={f:=215,M:=30,args:=[iq 1],H0:=[g2H],pre:=.be (.not (.cmp .eql (v 1) (c 0)))::CU 1,N:=32,t:=.lf ⟨[.rel aai [v 1,v 31] []],[],iv 31,[]⟩}
def acd:bg:={f:=198,M:=30,args:=[iq 1],H0:=[g2H],pre:=CU 1,N:=32,t:=.lf ⟨[.rel xk [v 31,v 1] []],[],iv 31,[]⟩}
def Pe:bg:={f:=175,M:=30,args:=[iv 2,iq 1],H0:=[g2H],pre:=CU 1,N:=32,t:=.lf ⟨[.rel xk [v 31,v 1] []],[],iv 31,[]⟩}
def Pf:bg:={f:=126,M:=30,args:=[.agg [iv 2,iv 3],iq 1,.b (.var 4),iv 5],H0:=[g2H],pre:=CU 1,N:=33,t:=.lf ⟨[.imp (.not (.var 4)) (.rel xk [v 31,v 1] [])],[],.agg [iv 31,iv 32],[]⟩}
def lZ:cj:=fun f r b=>
 bif Nat.beq f 175&&Nat.beq r 3 then some {items:=fun _=>[.ri 11,.ri 5],inv:=[.rel aah (fun n=>[v (n+1),v 1]) (fun _=>[]),.be fun n=> .cmp .leq (c 0) (v n)],mes:=fun n=> .sub (bu b 10) (v n)}
 else gK f r b
theorem YH:ab [([fb (nx (ex 1 (c 0))),fb (nx (ex 1 (c 0)))],leq (c 0) (.shr .u32 (.wrap .u32 (.mul (.bits .and .u32 1 (.wrap .u32 (.sub (c 0) 1))) (c 125613361))) (c 27))),
([fb (nx (ex 1 (c 0))),fb (nx (ex 1 (c 0)))],lss (.shr .u32 (.wrap .u32 (.mul (.bits .and .u32 1 (.wrap .u32 (.sub (c 0) 1))) (c 125613361))) (c 27)) (c 32))]:=by
  repeat' (first|exact .nil|refine au ?_ ?_)
  all_goals(
   intro ρ;(intro h;simp only[vS,IE.den,BE.den,LE.den]at h⊢;revert h;(try simp only[and_imp]);intros)
   obtain⟨d,hd,e,_,_⟩:=oG (ρ.i 1)
   rw[e]
   have h32:dI.length=32:=rfl
   omega)
theorem YI:ab [([.be (.not (.cmp .eql (v 1) (c 0))),.imp (.not (.cmp .eql (v 1) (c 0))) (.be (eJ (.shr .u32 (.wrap .u32 (.mul (.bits .and .u32 (v 1) (.wrap .u32 (.sub (c 0) (v 1)))) (c 125613361))) (c 27)) (v 30) dI 0))],.be (.cmp .leq (c 0) (.ite (.cmp .eql (v 1) (c 0)) (c 32) (.wrap .i64 (v 30))))),
([.be (.not (.cmp .eql (v 1) (c 0))),.imp (.not (.cmp .eql (v 1) (c 0))) (.be (eJ (.shr .u32 (.wrap .u32 (.mul (.bits .and .u32 (v 1) (.wrap .u32 (.sub (c 0) (v 1)))) (c 125613361))) (c 27)) (v 30) dI 0))],.be (.cmp .leq (.ite (.cmp .eql (v 1) (c 0)) (c 32) (.wrap .i64 (v 30))) (c 31)))]:=by
  repeat' (first|exact .nil|refine au ?_ ?_)
  all_goals(
   intro ρ h
   have x0:ρ.i 1≠0:=by have:=h _ (.head _);simpa [F.holds,BE.den,bv,v,c,IE.den] using this
   obtain⟨d,hd,e,g0,g1⟩:=oG (ρ.i 1)
   have hg:(eJ (.shr .u32 (.wrap .u32 (.mul (.bits .and .u32 (v 1) (.wrap .u32 (.sub (c 0) (v 1)))) (c 125613361))) (c 27)) (v 30) dI 0).den ρ=true:=h _ (.tail _ (.head _)) (h _ (.head _))
   have hv:=kn dI 0 d hd (by simp only[v,c,IE.den];rw[e];simp) hg
   simp only[v,IE.den]at hv
   rw[bD]
   simp only[IE.den,v,c,BE.den,bv,hv]
   have e0:(ρ.i 1==0)=false:=by simpa using x0
   rw[e0]
   simp only[Bool.false_eq_true,if_false]
   rw[cq (by omega)]
   omega)
theorem D2:No.ok Tryz.prog:=ao aS.nil gK (a5t YH YI) [3,4,3,4,5,6] (by kernel_rfl)
theorem YL:ab [([fb (nx (ex 1 (c 0))),fb (nx (ex 1 (c 0))),leq (c 0) 1,lss 1 (c 18446744073709551616)],leq (c 0) (.shr .u64 (.wrap .u64 (.mul (.bits .and .u64 1 (.wrap .u64 (.sub (c 0) 1))) (c 285870213051353865))) (c 58))),
([fb (nx (ex 1 (c 0))),fb (nx (ex 1 (c 0))),leq (c 0) 1,lss 1 (c 18446744073709551616)],lss (.shr .u64 (.wrap .u64 (.mul (.bits .and .u64 1 (.wrap .u64 (.sub (c 0) 1))) (c 285870213051353865))) (c 58)) (c 64))]:=by
  repeat' (first|exact .nil|refine au ?_ ?_)
  all_goals(
   intro ρ;(intro h;simp only[vS,IE.den,BE.den,LE.den]at h⊢;revert h;(try simp only[and_imp]);intros)
   obtain⟨k,hk,hb,hl⟩:=YG (x:=ρ.i 1) (by assumption) (by assumption) (by assumption)
   rw[hl,(oF k hk).1]
   have:=(List.getElem?_eq_some_iff.1 (oF k hk).2).1
   have h64:np.length=64:=rfl
   omega)
theorem YM:ab [([.be (.not (.cmp .eql (v 1) (c 0))),.be (.cmp .leq (c 0) (v 1)),.be (.cmp .lss (v 1) (c 18446744073709551616)),.imp (.not (.cmp .eql (v 1) (c 0))) (.be (eJ (.shr .u64 (.wrap .u64 (.mul (.bits .and .u64 (v 1) (.wrap .u64 (.sub (c 0) (v 1)))) (c 285870213051353865))) (c 58)) (v 30) np 0))],.rel 21 [(v 1),(.ite (.cmp .eql (v 1) (c 0)) (c 64) (.wrap .i64 (v 30)))] [])]:=by
 repeat' (first|exact .nil|refine au ?_ ?_)
 all_goals(
  intro ρ h
  have x0:ρ.i 1≠0:=by have:=h _ (.head _);simpa [F.holds,BE.den,bv,v,c,IE.den] using this
  have x1:=bD.1 (h _ (.tail _ (.head _)))
  have x2:=fC.1 (h _ (.tail _ (.tail _ (.head _))))
  simp only[v,c,IE.den]at x1 x2
  obtain⟨k,hk,hb,hl⟩:=YG x1 x2 x0
  have hp:=oF k hk
  obtain⟨hlt,hget⟩:=List.getElem?_eq_some_iff.1 hp.2
  have hg:(eJ (.shr .u64 (.wrap .u64 (.mul (.bits .and .u64 (v 1) (.wrap .u64 (.sub (c 0) (v 1)))) (c 285870213051353865))) (c 58)) (v 30) np 0).den ρ=true:=h _ (.tail _ (.tail _ (.tail _ (.head _)))) (h _ (.head _))
  have hv:=kn np 0 _ hlt (by simp only[v,c,IE.den];rw[hl,hp.1];simp) hg
  rw[hget]at hv
  simp only[v,IE.den]at hv
  simp only[F.holds,xv,List.map_cons,List.map_nil,IE.den,v,c,BE.den,bv,hv]
  have e0:(ρ.i 1==0)=false:=by simpa using x0
  rw[e0]
  simp only[Bool.false_eq_true,if_false]
  rw[cq (by omega)]
  exact⟨by omega,by omega,by simpa using hb⟩)
theorem YO:aev.ok Tryz.prog:=ao aS.nil gK (a5t YL YM) [3,4,3,4,5] (by kernel_rfl)
end Go.Proofs.YteelgjcnkhmigaaGreatDoor.K
namespace Go.Proofs.YteelgjcnkhmigaaGreatDoor.K
open Go.RowKit Go.Shelf Go.Proofs.YteelgjcnkhmigaaGreatDoor.E
section
attribute [local go_sem] Oper.semAt_some
theorem YP{W:World}{x:Int}(h0:x≠0)(hg:∃t f,W.heap[1]? =some (.cells (dI.map (Value.int .u8)).toArray t f)):
 Calls Tryz.prog 214 #[.int .u32 x] W fun e W'=>(∃y:Int,e=.returned (.int .i64 y)∧0≤y∧y≤31)∧dX [] W W':=by
 let C:bp:=⟨W,fun b=>b<W.heap.size,fun b=>b<W.heap.size⟩
 let σ:ap:=⟨fun _=>x,fun _=>false,fun _=>1,fun _ _=>0,fun _ _ _=>0,fun _=>undef,fun _ _=>undef⟩
 have hd:HD C σ No.H0 W:=by
  have cs:∀id o r,E.ai (.h id) No.H0=some (.row o r)→o=false∧r=.glob 294 1 .u8 dI∧id=18:=by
   intro id o r h
   simp only[No,XS,ak]at h
   split at h
   ·rename_i e
    obtain⟨rfl,rfl⟩:=aY.row.inj (Option.some.inj h)
    exact⟨rfl,rfl,(aO.h.inj e).symm⟩
   ·cases h
  have hlt:1<W.heap.size:=by obtain⟨_,f,h⟩:=hg;exact aw h
  refine⟨fun id o r h=>?_,fun id r h=>?_,fun id r h b hb=>?_,fun i j r s hi hj=>?_,fun i j r s hij hi hj=>?_,⟨rfl,rfl,rfl,Nat.le_refl _,fun b hb=>⟨hb,rfl⟩,fun b hb=>hb⟩⟩
  ·obtain⟨rfl,rfl,rfl⟩:=cs _ _ _ h;exact⟨rfl,hg⟩
  ·cases(cs _ _ _ h).1
  ·obtain⟨_,rfl,rfl⟩:=cs _ _ _ h
   have:b=1:=hb
   subst this;exact .inl hlt
  ·cases(cs _ _ _ hj).1
  ·cases(cs _ _ _ hi).1
 have:=D2 C σ W (by
  refine aa.2 ⟨?_,aj _⟩
  simpa [F.holds,BE.den,bv,v,c,IE.den] using h0) hd
 refine this.mono fun e W' he=>?_
 obtain⟨σ',_,he⟩:=he
 obtain⟨p1,_,p2,p3⟩:=he
 have q1:=bD.1 (p1 _ (.head _))
 have q2:=bD.1 (p1 _ (.tail _ (.head _)))
 exact⟨⟨_,p2,q1,q2⟩,p3.fr.os,p3.fr.tape,p3.fr.output,p3.fr.size,fun b hb _=>(p3.fr.keep b hb).2⟩
theorem YQ{ks:List Nat}{W:World}{B:Nat}(v:Value)(hB:B∈ks):dX ks W (W.setCell ⟨B,0,none⟩ v):=by
 refine⟨rfl,rfl,rfl,by simp[World.setCell],fun b _ hb=>?_⟩
 simp only[World.setCell,Array.getElem?_modify]
 have hne:¬B=b:=fun e=>hb (by rw[←e];exact hB)
 rw[if_neg hne]
theorem vo{ks:List Nat}{W:World}:dX ks W W.drew:=⟨rfl,rfl,rfl,Nat.le_refl _,fun _ _ _=>rfl⟩
@[irreducible] def msr(x:Int):Nat:=if 0≤x∧x≤4294967295 then x.toNat else 4294967296
theorem PA{x:Int}(h0:x≠0):msr (bits BinOp.and IntKind.u32 x (x-1))<msr x:=by
 have e2:bits BinOp.and IntKind.u32 x (x-1)=IntKind.u32.wrap ((((BitVec.ofInt 32 x)&&&(BitVec.ofInt 32 (x-1))).toNat:Nat):Int):=rfl
 have hlt:=((BitVec.ofInt 32 x)&&&(BitVec.ofInt 32 (x-1))).isLt
 have e3:bits BinOp.and IntKind.u32 x (x-1)=((((BitVec.ofInt 32 x)&&&(BitVec.ofInt 32 (x-1))).toNat:Nat):Int):=by rw[e2,IntKind.wrap_u32];omega
 rw[e3]
 by_cases hx:0≤x∧x≤4294967295
 ·obtain⟨X,rfl⟩:∃X:Nat,x=X:=⟨x.toNat,by omega⟩
  have ho:∀Y:Nat,Y<2 ^ 32→(BitVec.ofInt 32 (Y:Int)).toNat=Y:=by
   intro Y hY;rw[BitVec.toNat_ofInt];omega
  have e1:((X:Int)-1)=((X-1:Nat):Int):=by omega
  have hb:((BitVec.ofInt 32 (X:Int))&&&(BitVec.ofInt 32 ((X:Int)-1))).toNat=X&&&(X-1):=by
   rw[e1,BitVec.toNat_and,ho _ (by omega),ho _ (by omega)]
  have hle:X&&&(X-1)≤X-1:=Nat.and_le_right
  rw[hb]
  generalize X&&&(X-1)=m at*
  unfold msr
  rw[if_pos hx,if_pos (by omega)]
  omega
 ·generalize ((BitVec.ofInt 32 x)&&&(BitVec.ofInt 32 (x-1))).toNat=m at*
  unfold msr
  rw[if_neg hx,if_pos (by omega)]
  omega
theorem YR(x y:Int):bits BinOp.and IntKind.u32 x (y % 4294967296)=bits BinOp.and IntKind.u32 x y:=by
 have h:BitVec.ofInt 32 (y % 4294967296)=BitVec.ofInt 32 y:=by
  apply BitVec.eq_of_toInt_eq
  rw[BitVec.toInt_ofInt,BitVec.toInt_ofInt]
  simp only[Int.bmod_def]
  omega
 show IntKind.u32.wrap ((((BitVec.ofInt 32 x)&&&(BitVec.ofInt 32 (y % 4294967296))).toNat:Nat):Int)=IntKind.u32.wrap ((((BitVec.ofInt 32 x)&&&(BitVec.ofInt 32 y)).toNat:Nat):Int)
 rw[h]
theorem a8b(l B:Nat)(x0:Int)(J Jx:World→Prop)
 (hst:∀A B',J A→dX [B] A B'→J B') (hsx:∀A B',Jx A→dX [B] A B'→Jx B')
 (hg:∀W,J W→∃t f,W.heap[1]? =some (.cells (dI.map (Value.int .u8)).toArray t f))
 (hY:∀W (x:Int),J W→0≤x→x≤31→YieldAt Fence.wide 9 Tryz.prog l #[.int .i64 x] W fun e W'=>(∀b,b∈[B]→W'.heap[b]? =W.heap[b]?)∧((e=.returned (.bool true)∧J W')∨(e=.returned (.bool false)∧Jx W')))
 (W:World) (hB:Boxed W B 72 (.int .u32 x0)) (hJ:J W):
 CallsIn Fence.wide 10 Tryz.prog 213 #[.func (.yield l) #[] #[],.pointer (some ⟨B,0,none⟩)] W fun e W'=>(∃v,e=.returned v)∧(J W'∨Jx W'):=by
 refine callsIn_of_wp Tryz.func213 rfl trivial ?_ rfl
 simp only[Tryz.ntmps213,List.size_toArray,List.length_cons,List.length_nil,Nat.reduceAdd,Nat.reduceSub,Array.replicate_succ,Array.replicate_zero,List.push_toArray,List.append_toArray,List.nil_append,List.cons_append]
 gi_wp2
 gi_loopw [] (fun wr=>∃x:Int,Boxed wr B 72 (.int .u32 x)∧J wr)
  (fun wr=>match wr.cell? ⟨B,0,none⟩with|some (.int _ x)=>msr x|_=>0)
 case atStart=>
  exact⟨x0,hB,hJ⟩
 case round=>
  obtain⟨x,hbx,hJs⟩:=hrel
  have hcx:=hbx.cell
  have hfx:=hbx.frozen
  by_cases hx:x=0
  ·subst hx
   gi_wp2
   go_end0
   exact⟨⟨_,rfl⟩,.inl hJs⟩
  ·gi_wp2
   refine⟨trivial,(callsIn_wide.2 (YP hx (hg _ hJs))).mono ?_⟩
   rintro e W2 ⟨⟨y,rfl,hy1,hy2⟩,hO⟩
   have hJ2:J W2:=hst _ _ hJs ⟨hO.os,hO.tape,hO.output,hO.size,fun b hb _=>hO.same b hb (by simp)⟩
   have hb2:Boxed W2 B 72 (.int .u32 x):=(hO.same B hbx.lt (by simp)).trans hbx
   obtain⟨fn,tmps,assign,body,hy,hR⟩:=hY W2 y hJ2 hy1 hy2
   gi_wp2
   refine hR.mono ?_
   rintro e W3 ⟨hk3,⟨rfl,hJ3⟩|⟨rfl,hJx3⟩⟩
   ·have hb3:Boxed W3 B 72 (.int .u32 x):=(hk3 B (by simp)).trans hb2
    have hc3:=hb3.cell
    have hf3:=hb3.frozen
    gi_wp2
    refine⟨⟨_,hb3.set _,hst _ _ hJ3 (YQ _ (by simp))⟩,?_⟩
    rw[(hb3.set _).cell,hcx,YR]
    exact PA hx
   ·gi_wp2
    first|go_end0|(simp only[Exit.inBlock,Exit.then];refine bodyPost_ret (results_none rfl _ _ _) rfl ?_)|refine bodyPost_ret (results_none rfl _ _ _) rfl ?_
    exact⟨⟨_,rfl⟩,.inr hJx3⟩
end
end Go.Proofs.YteelgjcnkhmigaaGreatDoor.K
namespace Go.Proofs.YteelgjcnkhmigaaGreatDoor.K
open Go.RowKit Go.Proofs.YteelgjcnkhmigaaGreatDoor.E
def a8c(x:IE):IE:=.ite (.ite (.cmp .lss x (c 0)) (.lit true) (.cmp .geq x (c 64))) (c 0) (.shl .u64 (c 1) x)
def ahl:bg:={f:=127,M:=10,args:=[iv 1],H0:=[],pre:=[],N:=12,t:=.lf ⟨[eql (v 11) (a8c (v 1))],[],iq 11,[]⟩}
def ag4:bg:={f:=65,M:=10,args:=[iq 1,iv 2],H0:=[],pre:=[],N:=12,t:=.lf ⟨[.be (.eqb (.var 11) (.cmp .neq (.bits .and .u64 (v 1) (a8c (v 2))) (c 0)))],[],.b (.var 11),[]⟩}
theorem a8d:ab [([fb (nx (ix (lx 1 (c 0)) (.lit true) (.cmp .geq 1 (c 64))))],fb (.cmp .geq 1 (c 0))),
([],eql (.ite (ix (lx 1 (c 0)) (.lit true) (.cmp .geq 1 (c 64))) (c 0) (.shl .u64 (c 1) 1)) (.ite (ix (lx 1 (c 0)) (.lit true) (.cmp .geq 1 (c 64))) (c 0) (.shl .u64 (c 1) 1)))]:=dS
theorem a8e:ahl.ok Tryz.prog:=ao aS.nil gK a8d [3,4] (by kernel_rfl)
theorem YS:ab [([fb (nx (ix (lx 2 (c 0)) (.lit true) (.cmp .geq 2 (c 64))))],fb (.cmp .geq 2 (c 0))),
([],fb (.eqb (.cmp .neq (.bits .and .u64 1 (.ite (ix (lx 2 (c 0)) (.lit true) (.cmp .geq 2 (c 64))) (c 0) (.shl .u64 (c 1) 2))) (c 0)) (.cmp .neq (.bits .and .u64 1 (.ite (ix (lx 2 (c 0)) (.lit true) (.cmp .geq 2 (c 64))) (c 0) (.shl .u64 (c 1) 2))) (c 0))))]:=dS
theorem YT:ag4.ok Tryz.prog:=ao aS.nil gK YS [3,4] (by kernel_rfl)
end Go.Proofs.YteelgjcnkhmigaaGreatDoor.K
namespace Go.Proofs.YteelgjcnkhmigaaGreatDoor.K
open Go.RowKit Go.Shelf Go.Proofs.YteelgjcnkhmigaaGreatDoor.E
section
attribute [local go_sem] Oper.semAt_some
theorem vp{ct:bg}(h:ct.ok Tryz.prog)(hH:ct.H0=[])(σ:ap)(W:World)(hpre:ar σ ct.pre):
 Calls Tryz.prog ct.f (ct.args.map (SV.den σ)).toArray W fun e W'=>dX [] W W'∧∃σ',b7 ct.M ct.N σ σ'∧ct.t.post σ' fun x=>ar σ' x.fs∧e=.returned (x.s.den σ'):=by
 let C:bp:=⟨W,fun b=>b<W.heap.size,fun b=>b<W.heap.size⟩
 have hd:HD C σ ct.H0 W:=by
  rw[hH]
  exact⟨fun id o r h=>(by cases h),fun id r h=>(by cases h),fun id r h=>(by cases h),fun i j r s h=>(by cases h),fun i j r s _ h=>(by cases h),⟨rfl,rfl,rfl,Nat.le_refl _,fun b hb=>⟨hb,rfl⟩,fun b hb=>hb⟩⟩
 refine(h C σ W hpre hd).mono fun e W' he=>?_
 obtain⟨σ',hag,hp⟩:=he
 refine⟨?_,σ',hag,T.bd (fun x hx=>⟨hx.1,hx.2.2.1⟩) hp⟩
 have hf:Fr C W':=T.dY (fun x hx=>hx.2.2.2.fr) hp
 exact⟨hf.os,hf.tape,hf.output,hf.size,fun b hb _=>(hf.keep b hb).2⟩
def nS(x:Int):Int:=if x<0∨x≥64 then 0 else n5 .u64 1 x
theorem D3(ρ:ap)(e:IE):(a8c e).den ρ=nS (e.den ρ):=by
 simp only[a8c,nS,c,IE.den,BE.den,bv]
 by_cases h1:e.den ρ<0
 ·simp[h1]
 ·by_cases h2:e.den ρ≥64
  ·simp[h1,h2]
  ·have h3:¬(e.den ρ<0∨e.den ρ≥64):=fun h=>h.elim h1 h2
   simp[h1,h2,h3]
theorem PB(W:World)(x:Int):Calls Tryz.prog 127 #[.int .i64 x] W fun e W'=>e=.returned (.int .u64 (nS x))∧dX [] W W':=by
 refine(vp a8e rfl ⟨fun _=>x,fun _=>false,fun _=>0,fun _ _=>0,fun _ _ _=>0,fun _=>undef,fun _ _=>undef⟩ W (aj _)).mono fun e W' he=>?_
 obtain⟨hO,σ',hag,p1,p2⟩:=he
 refine⟨?_,hO⟩
 have h:=(tn.1 (p1 _ (.head _)))
 have hx:σ'.i 1=x:=hag.i 1 (.inl (by decide))
 rw[D3]at h
 rw[p2]
 simp only[v,IE.den,hx]at h
 simp only[iq,SV.den,IE.den,h]
theorem PC(W:World)(s x:Int):Calls Tryz.prog 65 #[.int .u64 s,.int .i64 x] W fun e W'=>e=.returned (.bool (aQ .and .u64 s (nS x) !=0))∧dX [] W W':=by
 refine(vp YT rfl ⟨fun k=>if k=1 then s else x,fun _=>false,fun _=>0,fun _ _=>0,fun _ _ _=>0,fun _=>undef,fun _ _=>undef⟩ W (aj _)).mono fun e W' he=>?_
 obtain⟨hO,σ',hag,p1,p2⟩:=he
 refine⟨?_,hO⟩
 have h:=p1 _ (.head _)
 have h1:σ'.i 1=s:=hag.i 1 (.inl (by decide))
 have h2:σ'.i 2=x:=hag.i 2 (.inl (by decide))
 simp only[F.holds,BE.den,bv,IE.den,D3,v,c,h1,h2,beq_iff_eq]at h
 rw[p2]
 simp only[SV.den,BE.den,h]
theorem a8f{x:Int}(h:nS x≠0):0≤x∧x<64∧nS x=n5 .u64 1 x:=by
 unfold nS at*
 split at h
 ·exact absurd rfl h
 ·rename_i h'
  rw[if_neg h']
  exact⟨by omega,by omega,rfl⟩
theorem adj{s t x:Int}(hs:0≤s∧s<18446744073709551616)(ht:0≤t∧t<18446744073709551616)(hb:nS x≠0)(h:aQ .and .u64 (aQ .or .u64 s t) (nS x)=0):
 0≤x∧x<64∧bE s x.toNat=false∧bE t x.toNat=false:=by
 obtain⟨h0,h1,h2⟩:=a8f hb
 rw[h2]at h
 have ho:=ew .or s t
 have hr:=nQ h0 h1
 have e:bE (aQ .and .u64 (aQ .or .u64 s t) (n5 .u64 1 x)) x.toNat=false:=by rw[h];exact O9 _
 rw[HP ho.1 ho.2 hr.1 hr.2,Yp hs.1 hs.2 ht.1 ht.2,xy h0 h1]at e
 simp only[decide_true,Bool.and_true,Bool.or_eq_false_iff]at e
 exact⟨h0,h1,e.1,e.2⟩
theorem ab1{ks:List Nat}{A B:World}(h:dX [] A B):dX ks A B:=⟨h.os,h.tape,h.output,h.size,fun b hb _=>h.same b hb (by simp)⟩
theorem ko{W W':World}{B:Nat}{t:TypeId}{v:Value}(h:Boxed W B t v)(hO:dX [] W W'):Boxed W' B t v:=(hO.same B h.lt (by simp)).trans h
theorem ag5(l B0 B1 B2:Nat)(sv:Value)(bb off n cc:Nat)(hn0:n≤1000000)(x1 x2:Int)(hx1:0≤x1∧x1<18446744073709551616)(hx2:0≤x2∧x2<18446744073709551616)(J Jx:World→Prop)
 (hst:∀A B',J A→dX [B0,B1,B2] A B'→J B') (hsx:∀A B',Jx A→dX [B0,B1,B2] A B'→Jx B')
 (hY:∀W (x:Int),J W→(0≤x∧x<64∧bE x1 x.toNat=false∧bE x2 x.toNat=false)→YieldAt Fence.wide 9 Tryz.prog l #[.int .i64 x] W fun e W'=>(∀b,b∈[B0,B1,B2]→W'.heap[b]? =W.heap[b]?)∧((e=.returned (.bool true)∧J W')∨(e=.returned (.bool false)∧Jx W')))
 (hsv:sv=.slice (some ⟨bb,off,none⟩) n cc)
 (hg:∀W,J W→∃cs f z,W.heap[bb]? =some (.cells cs f z)∧∀i,i<n→∃v:Int,cs[off+i]? =some (.int .i64 v))
 (W:World) (hB0:Boxed W B0 32 sv) (hB1:Boxed W B1 43 (.int .u64 x1)) (hB2:Boxed W B2 43 (.int .u64 x2)) (hJ:J W):
 CallsIn Fence.wide 10 Tryz.prog 193 #[.func (.yield l) #[] #[],.pointer (some ⟨B0,0,none⟩),.pointer (some ⟨B1,0,none⟩),.pointer (some ⟨B2,0,none⟩)] W fun e W'=>(∃v,e=.returned v)∧(J W'∨Jx W'):=by
 subst hsv
 have hc0:=hB0.cell
 refine callsIn_of_wp Tryz.func193 rfl trivial ?_ rfl
 simp only[Tryz.ntmps193,List.size_toArray,List.length_cons,List.length_nil,Nat.reduceAdd,Nat.reduceSub,Array.replicate_succ,Array.replicate_zero,List.push_toArray,List.append_toArray,List.nil_append,List.cons_append]
 gi_wp2
 gi_loopw [9] (fun v wr=>∃k:Nat,k≤n∧v=.int .i64 (k:Int)∧Boxed wr B1 43 (.int .u64 x1)∧Boxed wr B2 43 (.int .u64 x2)∧J wr)
  (fun v wr=>n-(intOf v).toNat)
 case atStart=>
  exact⟨0,by omega,rfl,hB1,hB2,hJ⟩
 case round=>
  obtain⟨k,hk,rfl,hb1,hb2,hJs⟩:=hrel
  by_cases hlt:k<n
  ·have hw:wrap64 ((k:Int)+1)=((k+1:Nat):Int):=by unfold wrap64;omega
   obtain⟨cs,f,z,hcs,hcv⟩:=hg _ hJs
   obtain⟨x,hx⟩:=hcv k hlt
   have hcell:wr.cell? ⟨bb,off+k,none⟩=some (.int .i64 x):=by simp[World.cell?,hcs,hx]
   gi_wp2
   refine⟨trivial,(callsIn_wide.2 (PB wr x)).mono ?_⟩
   rintro e W2 ⟨rfl,hO⟩
   have hJ2:=hst _ _ hJs (ab1 hO)
   have hb12:=ko hb1 hO
   have hb22:=ko hb2 hO
   have hc1:=hb12.cell
   have hc2:=hb22.cell
   by_cases hz:nS x=0
   ·have hn:(nS x !=0)=false:=by simp[hz]
    gi_wp2
    refine⟨trivial,?_⟩
    gi_wp2
    refine⟨fun _ _=>trivial,?_⟩
    gi_wp2
    go_roundw
    case rel=>exact⟨k+1,by omega,rfl,hb12,hb22,hJ2⟩
    case measure=>simp[intOf];omega
   ·have hn:(nS x !=0)=true:=by simp[hz]
    gi_wp2
    have hor:bits BinOp.or IntKind.u64 x1 x2=aQ .or .u64 x1 x2:=rfl
    rw[hor]
    refine⟨trivial,(callsIn_wide.2 (PC W2 (aQ .or .u64 x1 x2) x)).mono ?_⟩
    rintro e W3 ⟨rfl,hO3⟩
    have hJ3:=hst _ _ hJ2 (ab1 hO3)
    have hb13:=ko hb12 hO3
    have hb23:=ko hb22 hO3
    have hc13:=hb13.cell
    have hc23:=hb23.cell
    by_cases hh:aQ .and .u64 (aQ .or .u64 x1 x2) (nS x)=0
    ·have hm:(aQ .and .u64 (aQ .or .u64 x1 x2) (nS x) !=0)=false:=by simp[hh]
     rw[hm]
     obtain⟨fn,tmps,assign,body,hy,hR⟩:=hY W3 x hJ3 (adj hx1 hx2 hz hh)
     gi_wp2
     refine hR.mono ?_
     rintro e W4 ⟨hk4,⟨rfl,hJ4⟩|⟨rfl,hJx4⟩⟩
     ·have hb14:Boxed W4 B1 43 (.int .u64 x1):=(hk4 B1 (by simp)).trans hb13
      have hb24:Boxed W4 B2 43 (.int .u64 x2):=(hk4 B2 (by simp)).trans hb23
      gi_wp2
      go_roundw
      case rel=>exact⟨k+1,by omega,rfl,hb14,hb24,hJ4⟩
      case measure=>simp[intOf];omega
     ·gi_wp2
      first|go_end0|(simp only[Exit.inBlock,Exit.then];refine bodyPost_ret (results_none rfl _ _ _) rfl ?_)|refine bodyPost_ret (results_none rfl _ _ _) rfl ?_
      exact⟨⟨_,rfl⟩,.inr hJx4⟩
    ·have hm:(aQ .and .u64 (aQ .or .u64 x1 x2) (nS x) !=0)=true:=by simp[hh]
     rw[hm]
     gi_wp2
     refine⟨fun _ _=>trivial,?_⟩
     gi_wp2
     go_roundw
     case rel=>exact⟨k+1,by omega,rfl,hb13,hb23,hJ3⟩
     case measure=>simp[intOf];omega
  ·gi_wp2
   go_end0
   exact⟨⟨_,rfl⟩,.inl hJs⟩
end
section
attribute [local go_sem] Oper.semAt_some
theorem YU(l B0 B1:Nat)(sv:Value)(bb off m cc:Nat)(hm:m≤1000000)(n:Int)(hn:1≤n∧n≤8)(J:Nat→World→Prop)(Jx:World→Prop)
 (hst:∀p A B',J p A→dX [B0,B1] A B'→J p B') (hsx:∀A B',Jx A→dX [B0,B1] A B'→Jx B')
 (hY:∀p W (i e:Nat),J p W→(i:Int)=(p:Int)*n→i+e≤m→1≤e→(e:Int)≤n→((e:Int)=n∨i+e=m)→YieldAt Fence.wide 9 Tryz.prog l #[.slice (some ⟨bb,off+i,none⟩) e e] W fun e W'=>(∀b,b∈[B0,B1]→W'.heap[b]? =W.heap[b]?)∧((e=.returned (.bool true)∧J (p+1) W')∨(e=.returned (.bool false)∧Jx W')))
 (hsv:sv=.slice (some ⟨bb,off,none⟩) m cc) (hcc:m≤cc)
 (hg:∀p W,J p W→∃cs f z,W.heap[bb]? =some (.cells cs f z))
 (W:World) (hB0:Boxed W B0 22 sv) (hB1:Boxed W B1 3 (.int .i64 n)) (hJ:J 0 W):
 CallsIn Fence.wide 10 Tryz.prog 229 #[.func (.yield l) #[] #[],.pointer (some ⟨B0,0,none⟩),.pointer (some ⟨B1,0,none⟩)] W fun e W'=>(∃v,e=.returned v)∧((∃p:Nat,(m:Int)≤(p:Int)*n∧(p=0∨((p:Int)-1)*n<m)∧J p W')∨Jx W'):=by
 subst hsv
 refine callsIn_of_wp Tryz.func229 rfl trivial ?_ rfl
 simp only[Tryz.ntmps229,List.size_toArray,List.length_cons,List.length_nil,Nat.reduceAdd,Nat.reduceSub,Array.replicate_succ,Array.replicate_zero,List.push_toArray,List.append_toArray,List.nil_append,List.cons_append]
 gi_wp2
 gi_loopw [4] (fun v wr=>∃p k:Nat,(k:Int)=(p:Int)*n∧(p=0∨((p:Int)-1)*n<m)∧k≤m+8∧v=.int .i64 (k:Int)∧Boxed wr B0 22 (.slice (some ⟨bb,off,none⟩) m cc)∧Boxed wr B1 3 (.int .i64 n)∧J p wr)
  (fun v wr=>m+8-(intOf v).toNat)
 case atStart=>
  exact⟨0,0,by simp,.inl rfl,by omega,rfl,hB0,hB1,hJ⟩
 case round=>
  obtain⟨p,k,hkp,hpm,hk,rfl,hb0,hb1,hJs⟩:=hrel
  have A:Aside ((k:Int)=(p:Int)*n∧(p=0∨((p:Int)-1)*n<m)):=⟨hkp,hpm⟩
  clear hkp hpm
  have hc0:=hb0.cell
  have hc1:=hb1.cell
  by_cases hlt:k<m
  ·obtain⟨cs,f,z,hcs⟩:=hg _ _ hJs
   have hmx:Tryz.prog.follows .mixedOrders=true:=by kernel_rfl
   gi_wp2
   gi_region_o
   obtain⟨E,hE,hE1,hE2,hE3,hE4⟩:∃E:Nat,(if((m-k:Nat):Int)<n then((m-k:Nat):Int)else n)=(E:Int)∧1≤E∧k+E≤m∧(E:Int)≤n∧((E:Int)=n∨k+E=m):=
    ⟨(if((m-k:Nat):Int)<n then((m-k:Nat):Int)else n).toNat,by split<;>omega,by split<;>omega,by split<;>omega,by split<;>omega,by split<;>omega⟩
   rw[hE]
   clear hE
   have A4:Aside ((E:Int)=n∨k+E=m):=hE4
   clear hE4
   have hJd:J p wr.drew:=hst _ _ _ hJs vo
   have hb0d:Boxed wr.drew B0 22 (.slice (some ⟨bb,off,none⟩) m cc):=hb0
   have hb1d:Boxed wr.drew B1 3 (.int .i64 n):=hb1
   revert hJd hb0d hb1d
   generalize wr.drew=W2
   intro hJd hb0d hb1d
   have hc0d:=hb0d.cell
   have hc1d:=hb1d.cell
   have hw:wrap64 ((k:Int)+(E:Int))=((k+E:Nat):Int):=by unfold wrap64;omega
   obtain⟨fn,tmps,assign,body,hy,hR⟩:=hY p W2 k E hJd A.out.1 hE2 hE1 hE3 A4.out
   gi_wp2
   refine hR.mono ?_
   rintro e W3 ⟨hk3,⟨rfl,hJ3⟩|⟨rfl,hJx3⟩⟩
   ·have hb03:Boxed W3 B0 22 (.slice (some ⟨bb,off,none⟩) m cc):=(hk3 B0 (by simp)).trans hb0d
    have hb13:Boxed W3 B1 3 (.int .i64 n):=(hk3 B1 (by simp)).trans hb1d
    have hc13:=hb13.cell
    have hw2:wrap64 ((k:Int)+n)=((k+n.toNat:Nat):Int):=by unfold wrap64;omega
    gi_wp2
    go_roundw
    case rel=>
     have e1:=A.out.1
     have e2:((p:Int)+1)*n=(p:Int)*n+n:=by rw[Int.add_mul,Int.one_mul]
     exact⟨p+1,k+n.toNat,by push_cast;rw[e2];omega,.inr (by push_cast;rw[Int.add_sub_cancel,←e1];omega),by omega,by congr 1;omega,hb03,hb13,hJ3⟩
    case measure=>simp[intOf];omega
   ·gi_wp2
    first|go_end0|(simp only[Exit.inBlock,Exit.then];refine bodyPost_ret (results_none rfl _ _ _) rfl ?_)|refine bodyPost_ret (results_none rfl _ _ _) rfl ?_
    exact⟨⟨_,rfl⟩,.inr hJx3⟩
  ·gi_wp2
   go_end0
   exact⟨⟨_,rfl⟩,.inl ⟨p,by rw[←A.out.1];omega,A.out.2,hJs⟩⟩
theorem YV(l B0 B1:Nat)(sv:Value)(bb off m cc:Nat)(hm:m≤1000000)(n:Int)(hn:1≤n∧n≤8)(J:Nat→World→Prop)(Jx:World→Prop)
 (hst:∀p A B',J p A→dX [B0,B1] A B'→J p B') (hsx:∀A B',Jx A→dX [B0,B1] A B'→Jx B')
 (hY:∀p W (i e:Nat),J p W→(i:Int)=(p:Int)*n→i+e≤m→1≤e→(e:Int)≤n→((e:Int)=n∨i+e=m)→YieldAt Fence.wide 9 Tryz.prog l #[.slice (some ⟨bb,off+i,none⟩) e e] W fun e W'=>(∀b,b∈[B0,B1]→W'.heap[b]? =W.heap[b]?)∧((e=.returned (.bool true)∧J (p+1) W')∨(e=.returned (.bool false)∧Jx W')))
 (hsv:sv=.slice (some ⟨bb,off,none⟩) m cc) (hcc:m≤cc)
 (hg:∀p W,J p W→∃cs f z,W.heap[bb]? =some (.cells cs f z))
 (W:World) (hB0:Boxed W B0 268 sv) (hB1:Boxed W B1 3 (.int .i64 n)) (hJ:J 0 W):
 CallsIn Fence.wide 10 Tryz.prog 221 #[.func (.yield l) #[] #[],.pointer (some ⟨B0,0,none⟩),.pointer (some ⟨B1,0,none⟩)] W fun e W'=>(∃v,e=.returned v)∧((∃p:Nat,(m:Int)≤(p:Int)*n∧(p=0∨((p:Int)-1)*n<m)∧J p W')∨Jx W'):=by
 subst hsv
 refine callsIn_of_wp Tryz.func221 rfl trivial ?_ rfl
 simp only[Tryz.ntmps221,List.size_toArray,List.length_cons,List.length_nil,Nat.reduceAdd,Nat.reduceSub,Array.replicate_succ,Array.replicate_zero,List.push_toArray,List.append_toArray,List.nil_append,List.cons_append]
 gi_wp2
 gi_loopw [4] (fun v wr=>∃p k:Nat,(k:Int)=(p:Int)*n∧(p=0∨((p:Int)-1)*n<m)∧k≤m+8∧v=.int .i64 (k:Int)∧Boxed wr B0 268 (.slice (some ⟨bb,off,none⟩) m cc)∧Boxed wr B1 3 (.int .i64 n)∧J p wr)
  (fun v wr=>m+8-(intOf v).toNat)
 case atStart=>
  exact⟨0,0,by simp,.inl rfl,by omega,rfl,hB0,hB1,hJ⟩
 case round=>
  obtain⟨p,k,hkp,hpm,hk,rfl,hb0,hb1,hJs⟩:=hrel
  have A:Aside ((k:Int)=(p:Int)*n∧(p=0∨((p:Int)-1)*n<m)):=⟨hkp,hpm⟩
  clear hkp hpm
  have hc0:=hb0.cell
  have hc1:=hb1.cell
  by_cases hlt:k<m
  ·obtain⟨cs,f,z,hcs⟩:=hg _ _ hJs
   have hmx:Tryz.prog.follows .mixedOrders=true:=by kernel_rfl
   gi_wp2
   gi_region_o
   obtain⟨E,hE,hE1,hE2,hE3,hE4⟩:∃E:Nat,(if((m-k:Nat):Int)<n then((m-k:Nat):Int)else n)=(E:Int)∧1≤E∧k+E≤m∧(E:Int)≤n∧((E:Int)=n∨k+E=m):=
    ⟨(if((m-k:Nat):Int)<n then((m-k:Nat):Int)else n).toNat,by split<;>omega,by split<;>omega,by split<;>omega,by split<;>omega,by split<;>omega⟩
   rw[hE]
   clear hE
   have A4:Aside ((E:Int)=n∨k+E=m):=hE4
   clear hE4
   have hJd:J p wr.drew:=hst _ _ _ hJs vo
   have hb0d:Boxed wr.drew B0 268 (.slice (some ⟨bb,off,none⟩) m cc):=hb0
   have hb1d:Boxed wr.drew B1 3 (.int .i64 n):=hb1
   revert hJd hb0d hb1d
   generalize wr.drew=W2
   intro hJd hb0d hb1d
   have hc0d:=hb0d.cell
   have hc1d:=hb1d.cell
   have hw:wrap64 ((k:Int)+(E:Int))=((k+E:Nat):Int):=by unfold wrap64;omega
   obtain⟨fn,tmps,assign,body,hy,hR⟩:=hY p W2 k E hJd A.out.1 hE2 hE1 hE3 A4.out
   gi_wp2
   refine hR.mono ?_
   rintro e W3 ⟨hk3,⟨rfl,hJ3⟩|⟨rfl,hJx3⟩⟩
   ·have hb03:Boxed W3 B0 268 (.slice (some ⟨bb,off,none⟩) m cc):=(hk3 B0 (by simp)).trans hb0d
    have hb13:Boxed W3 B1 3 (.int .i64 n):=(hk3 B1 (by simp)).trans hb1d
    have hc13:=hb13.cell
    have hw2:wrap64 ((k:Int)+n)=((k+n.toNat:Nat):Int):=by unfold wrap64;omega
    gi_wp2
    go_roundw
    case rel=>
     have e1:=A.out.1
     have e2:((p:Int)+1)*n=(p:Int)*n+n:=by rw[Int.add_mul,Int.one_mul]
     exact⟨p+1,k+n.toNat,by push_cast;rw[e2];omega,.inr (by push_cast;rw[Int.add_sub_cancel,←e1];omega),by omega,by congr 1;omega,hb03,hb13,hJ3⟩
    case measure=>simp[intOf];omega
   ·gi_wp2
    first|go_end0|(simp only[Exit.inBlock,Exit.then];refine bodyPost_ret (results_none rfl _ _ _) rfl ?_)|refine bodyPost_ret (results_none rfl _ _ _) rfl ?_
    exact⟨⟨_,rfl⟩,.inr hJx3⟩
  ·gi_wp2
   go_end0
   exact⟨⟨_,rfl⟩,.inl ⟨p,by rw[←A.out.1];omega,A.out.2,hJs⟩⟩
end
section
attribute [local go_sem] Oper.semAt_some
theorem PD(l B0 B1:Nat)(n:Int)(J Jx:World→Prop)(W:World)(hB0:Boxed W B0 22 (.slice none 0 0))(hB1:Boxed W B1 3 (.int .i64 n))(hJ:J W):
 CallsIn Fence.wide 10 Tryz.prog 229 #[.func (.yield l) #[] #[],.pointer (some ⟨B0,0,none⟩),.pointer (some ⟨B1,0,none⟩)] W fun e W'=>(∃v,e=.returned v)∧(J W'∨Jx W'):=by
 have hc0:=hB0.cell
 refine callsIn_of_wp Tryz.func229 rfl trivial ?_ rfl
 simp only[Tryz.ntmps229,List.size_toArray,List.length_cons,List.length_nil,Nat.reduceAdd,Nat.reduceSub,Array.replicate_succ,Array.replicate_zero,List.push_toArray,List.append_toArray,List.nil_append,List.cons_append]
 gi_wp2
 gi_loopw [4] (fun v wr=>v=.int .i64 0∧Boxed wr B0 22 (.slice none 0 0)∧J wr) (fun v wr=>0)
 case atStart=>exact⟨rfl,hB0,hJ⟩
 case round=>
  obtain⟨rfl,hb0,hJs⟩:=hrel
  have hc1:=hb0.cell
  gi_wp2
  go_end0
  exact⟨⟨_,rfl⟩,.inl hJs⟩
theorem PE(l B0 B1:Nat)(n:Int)(J Jx:World→Prop)(W:World)(hB0:Boxed W B0 268 (.slice none 0 0))(hB1:Boxed W B1 3 (.int .i64 n))(hJ:J W):
 CallsIn Fence.wide 10 Tryz.prog 221 #[.func (.yield l) #[] #[],.pointer (some ⟨B0,0,none⟩),.pointer (some ⟨B1,0,none⟩)] W fun e W'=>(∃v,e=.returned v)∧(J W'∨Jx W'):=by
 have hc0:=hB0.cell
 refine callsIn_of_wp Tryz.func221 rfl trivial ?_ rfl
 simp only[Tryz.ntmps221,List.size_toArray,List.length_cons,List.length_nil,Nat.reduceAdd,Nat.reduceSub,Array.replicate_succ,Array.replicate_zero,List.push_toArray,List.append_toArray,List.nil_append,List.cons_append]
 gi_wp2
 gi_loopw [4] (fun v wr=>v=.int .i64 0∧Boxed wr B0 268 (.slice none 0 0)∧J wr) (fun v wr=>0)
 case atStart=>exact⟨rfl,hB0,hJ⟩
 case round=>
  obtain⟨rfl,hb0,hJs⟩:=hrel
  have hc1:=hb0.cell
  gi_wp2
  go_end0
  exact⟨⟨_,rfl⟩,.inl hJs⟩
theorem adk(l B0 B1 B2:Nat)(x1 x2:Int)(J Jx:World→Prop)
 (W:World) (hB0:Boxed W B0 32 (.slice none 0 0)) (hB1:Boxed W B1 43 (.int .u64 x1)) (hB2:Boxed W B2 43 (.int .u64 x2)) (hJ:J W):
 CallsIn Fence.wide 10 Tryz.prog 193 #[.func (.yield l) #[] #[],.pointer (some ⟨B0,0,none⟩),.pointer (some ⟨B1,0,none⟩),.pointer (some ⟨B2,0,none⟩)] W fun e W'=>(∃v,e=.returned v)∧(J W'∨Jx W'):=by
 have hc0:=hB0.cell
 refine callsIn_of_wp Tryz.func193 rfl trivial ?_ rfl
 simp only[Tryz.ntmps193,List.size_toArray,List.length_cons,List.length_nil,Nat.reduceAdd,Nat.reduceSub,Array.replicate_succ,Array.replicate_zero,List.push_toArray,List.append_toArray,List.nil_append,List.cons_append]
 gi_wp2
 gi_loopw [9] (fun v wr=>v=.int .i64 0∧J wr) (fun v wr=>0)
 case atStart=>exact⟨rfl,hJ⟩
 case round=>
  obtain⟨rfl,hJs⟩:=hrel
  gi_wp2
  go_end0
  exact⟨⟨_,rfl⟩,.inl hJs⟩
end
end Go.Proofs.YteelgjcnkhmigaaGreatDoor.K
namespace Go.Proofs.YteelgjcnkhmigaaGreatDoor.E
open Go.RowKit
section
variable [cg]
theorem adi(P:Program)(ann:cj)(U f:Nat)(F0:Fm):@rK _ F0 P (lpF ann U f):=by
 letI:=F0
 intro base C nt amb n0 hamb c body hb n b v t n' h
 unfold lpF at h
 split at h
 ·split at h
  ·rename_i an _;exact v8 hamb hb an (Wn c) n b v t n' h
  ·exact lK P U base C nt amb n0 hamb c body hb n b v t n' h
 ·exact lK P U base C nt amb n0 hamb c body hb n b v t n' h
def YE(P:Program)(ctr:aU)(ann:cj)(it:uv)(U k:Nat):aU:=adh P (v9 P ctr ann U k) (drF P (v9 P ctr ann U k)) (lpF ann U) it ann
theorem Pz{P:Program}(hm:P.follows .mixedOrders=true)(hN:iS P){ctr:aU}(hctr:bI P ctr)(ann:cj){it:uv}(hit:Yz P it)(U k:Nat):bI P (YE P ctr ann it U k):=
 a88 (gJ hm hN hctr ann U k) hN (fun F=>@Hn _ F P hm hN _ (gJ hm hN hctr ann U k)) (fun f F=>adi P ann U f F) hit ann
end
end Go.Proofs.YteelgjcnkhmigaaGreatDoor.E
namespace Go.Proofs.YteelgjcnkhmigaaGreatDoor.K
open Go.RowKit Go.Proofs.YteelgjcnkhmigaaGreatDoor.E
def jg(H:af)(e:TypeId):SV→Option (Nat×SV)
 |.ptr (.at b 0)=>match E.ai (.h b) H with
  |some (.row true (.cells e' [s]))=>bif Nat.beq e e' then some (b,s)else none
  |_=>none
 |_=>none
def vm(H:af)(e:TypeId)(k:IntKind):SV→Option (Nat×IE)
 |.lst id=>match E.ai (.h id) H with
  |some (.row false (.lst e' [.int k'] m le))=>bif Nat.beq e e'&&gw k k' then some (id,m)else none
  |_=>none
 |_=>none
def tP(caps:List SV)(H:af)(q:Nat):Option Wo:=
 match caps with
 |[p]=>match jg H 72 p,E.ai (.h 18) H with
  |some (b,.int .u32 x),some (.row false (.glob 294 1 .u8 l))=>bif nK l dI then
   some {own:=[b],rd:=[18],vcs:=[],nx:=q+2,s:=.int .i64 (.var (q+1)),fs:=[leq (c 0) (v (q+1)),leq (v (q+1)) (c 31)],log:=[],fin:=[]}else none
  |_,_=>none
 |_=>none
def HW(caps:List SV)(H:af)(q:Nat):Option Wo:=
 match caps with
 |[p0,p1,p2]=>match jg H 32 p0,jg H 43 p1,jg H 43 p2 with
  |some (b0,s),some (b1,.int .u64 x1),some (b2,.int .u64 x2)=>match vm H 3 .i64 s with
   |some (id,m)=>some {own:=[b0,b1,b2],rd:=[id],vcs:=[leq m (c 1000000),leq (c 0) x1,lss x1 (c 18446744073709551616),leq (c 0) x2,lss x2 (c 18446744073709551616)],nx:=q+2,s:=.int .i64 (.var (q+1)),fs:=[.rel xj [v (q+1),x1,x2] []],log:=[],fin:=[]}
   |none=>none
  |_,_,_=>none
 |_=>none
def HX(caps:List SV)(H:af)(q:Nat):Option Wo:=
 match caps with
 |[p0,p1]=>match jg H 3 p0,jg H 3 p1 with
  |some (b0,.int .i64 x0),some (b1,.int .i64 x1)=>some {own:=[b0,b1],rd:=[],vcs:=[leq x0 (c 100),leq (c 0) x1,leq (c (-1)) x0],nx:=q+2,s:=.int .i64 (.var (q+1)),fs:=[leq x1 (v (q+1)),leq (v (q+1)) x0],log:=[],fin:=[]}
  |_,_=>none
 |_=>none
def sa(t e:TypeId)(k:IntKind)(caps:List SV)(H:af)(q:Nat):Option Wo:=
 match caps with
 |[p0,p1]=>match jg H t p0,jg H 3 p1 with
  |some (b0,s),some (b1,.int .i64 z)=>match vm H e k s with
   |some (id,m)=>some {own:=[b0,b1],rd:=[id],vcs:=[leq m (c 1000000),leq (c 1) z,leq z (c 8)],nx:=q+2,s:=.lst (q+1),fs:=[leq (c 1) (v (q+1)),leq (v (q+1)) z,leq (.add (.mul (v q) z) (v (q+1))) (.nat m),.be (.ite (.cmp .eql (v (q+1)) z) (.lit true) (.cmp .eql (.add (.mul (v q) z) (v (q+1))) (.nat m)))],log:=[(.h (q+1),.row false (.lst e [.int k] (.var (q+1)) (.var (q+1))))],fin:=[leq (.nat m) (.mul (v q) z),.be (.ite (.cmp .eql (v q) (c 0)) (.lit true) (.cmp .lss (.mul (.sub (v q) (c 1)) z) (.nat m))),leq (c 0) (v q)]}
   |none=>none
  |_,_=>none
 |_=>none
def itF:uv:=fun gf caps H n q=>
 bif Nat.beq gf 213 then tP caps H q
 else bif Nat.beq gf 193 then HW caps H q
 else bif Nat.beq gf 228 then HX caps H q
 else bif Nat.beq gf 229 then sa 22 5 .u8 caps H q
 else bif Nat.beq gf 221 then sa 268 43 .u64 caps H q
 else none
end Go.Proofs.YteelgjcnkhmigaaGreatDoor.K
namespace Go.Proofs.YteelgjcnkhmigaaGreatDoor.K
open Go.RowKit Go.Shelf Go.Proofs.YteelgjcnkhmigaaGreatDoor.E
theorem dZ{H:af}{e:TypeId}{p s:SV}{b:Nat}(h:jg H e p=some (b,s)):p=.ptr (.at b 0)∧E.ai (.h b) H=some (.row true (.cells e [s])):=by
 unfold jg at h
 split at h
 ·split at h
  ·rename_i hl
   generalize hb:Nat.beq e _=bb at h
   cases bb with
   |false=>cases h
   |true=>
    simp only[cond_true,Option.some.injEq,Prod.mk.injEq]at h
    obtain⟨rfl,rfl⟩:=h
    have:=Nat.eq_of_beq_eq_true hb
    subst this
    exact⟨rfl,hl⟩
  ·cases h
 ·cases h
theorem cY{H:af}{e:TypeId}{p s:SV}{b:Nat}(h:jg H e p=some (b,s)){C:bp}{ρ:ap}{w:World}(HH:HD C ρ H w):Boxed w (ρ.k b) e (s.den ρ):=by
 have:=HH.rows b true _ (dZ h).2
 simp only[am.holds,List.map_cons,List.map_nil]at this
 exact this
theorem tQ{H:af}{e:TypeId}{k:IntKind}{s:SV}{id:Nat}{m:IE}(h:vm H e k s=some (id,m)):s=.lst id∧∃le,E.ai (.h id) H=some (.row false (.lst e [.int k] m le)):=by
 unfold vm at h
 split at h
 ·split at h
  ·rename_i hl
   generalize hb:(Nat.beq e _&&gw k _)=bb at h
   cases bb with
   |false=>cases h
   |true=>
    simp only[cond_true,Option.some.injEq,Prod.mk.injEq]at h
    obtain⟨rfl,rfl⟩:=h
    simp only[Bool.and_eq_true]at hb
    have h1:=Nat.eq_of_beq_eq_true hb.1
    have h2:=bY hb.2
    subst h1;subst h2
    exact⟨rfl,_,hl⟩
  ·cases h
 ·cases h
theorem D4{caps:List SV}{H:af}{n q:Nat}{r:Wo}(h:tP caps H q=some r)(hH:af.avo n ay H=true)(hn:n≤q)(hx:r.nx≤ay)(C:bp)(ρ:ap)(w:World)(HH:HD C ρ H w)(hv:ar ρ r.vcs):
 oD Tryz.prog 213 (caps.map (SV.den ρ)).toArray (r.own.map ρ.k) (Rd ρ H r.rd) (YOf ρ H n q r) (vj ρ n q r) w:=by
 unfold tP at h
 split at h
 ·rename_i p
  split at h
  ·rename_i b x l hb hgl
   generalize hc:nK l dI=cc at h
   cases cc with
   |false=>cases h
   |true=>
    have:=lU hc
    subst this
    obtain rfl:=Option.some.inj h
    intro l J Jx hst hsx hR hY hJ
    have hbx:=cY hb HH
    obtain⟨rfl,_⟩:=dZ hb
    refine(callsIn_wide.1 (a8b l (ρ.k b) (x.den ρ) (fun W=>∃p,J p W) Jx (fun A B ⟨p,hp⟩ ho=>⟨p,hst p A B hp ho⟩) hsx (fun W ⟨p,hW⟩=>?_) (fun W y ⟨p,hW⟩ h0 h1=>?_) w hbx ⟨0,hJ⟩)).mono fun e W' he=>⟨he.1,he.2.imp (fun⟨p,hp⟩=>⟨p,fun _ _ _=>aj _,hp⟩) (fun h=>h)⟩
    ·have:=hR p W hW 18 (by simp) _ hgl
     simp only[am.holds]at this
     obtain⟨e1,t,f,hf⟩:=this
     rw[e1]at hf
     exact⟨t,f,hf⟩
    ·refine(hY p W (.int .i64 y) hW fun ρx hρx hpx=>⟨eG ρx (q+1) y,dT ρx (q+1) y,?_,?_,fun id o q hq=>(by cases hq)⟩).mono fun e W' he=>⟨he.1,he.2.imp (fun h=>⟨h.1,_,h.2⟩) (fun h=>h)⟩
     ·refine aa.2 ⟨?_,aa.2 ⟨?_,aj _⟩⟩
      ·rw[leq,bD];simpa [v,c,IE.den,eG] using h0
      ·rw[leq,bD];simpa [v,c,IE.den,eG] using h1
     ·simp[SV.den,IE.den,eG]
  ·cases h
 ·cases h
theorem a8g{H:af}{n:Nat}(hH:af.avo n ay H=true){e:TypeId}{p s:SV}{b:Nat}(h:jg H e p=some (b,s)):s.avo n ay=true:=by
 have:=(af.al hH (dZ h).2).2
 simp only[aY.avo,am.avo,SV.avos,Bool.and_true]at this
 exact this
theorem m5{H:af}{n:Nat}(hH:af.avo n ay H=true){e:TypeId}{p:SV}{b:Nat}{k:IntKind}{x:IE}(h:jg H e p=some (b,.int k x)){hi:Nat}(hhi:hi≤ay){ρ σ:ap}(hag:b7 n hi ρ σ):x.den σ=x.den ρ:=by
 have:=a8g hH h
 exact IE.ag hag x (IE.ad (Nat.le_refl _) hhi x this)
theorem Oe{n q:Nat}(hn:n≤q)(hq:q+2≤ay){ρ ρx:ap}(h:b7 n ay ρ ρx)(y:Int):b7 n ay ρ (eG ρx (q+1) y):=
 h.trans ((dT ρx (q+1) y).mono (by omega) (by omega)) (Nat.le_refl _) (Nat.le_refl _)
theorem PF{caps:List SV}{H:af}{n q:Nat}{r:Wo}(h:HX caps H q=some r)(hH:af.avo n ay H=true)(hn:n≤q)(hx:r.nx≤ay)(C:bp)(ρ:ap)(w:World)(HH:HD C ρ H w)(hv:ar ρ r.vcs):
 oD Tryz.prog 228 (caps.map (SV.den ρ)).toArray (r.own.map ρ.k) (Rd ρ H r.rd) (YOf ρ H n q r) (vj ρ n q r) w:=by
 unfold HX at h
 split at h
 ·split at h
  ·rename_i b0 x0 b1 x1 h0 h1
   obtain rfl:=Option.some.inj h
   intro l J Jx hst hsx hR hY hJ
   have hx1:=bD.1 (aa.1 hv).1
   have hx2:=bD.1 (aa.1 (aa.1 hv).2).1
   have hx3:=bD.1 (aa.1 (aa.1 (aa.1 hv).2).2).1
   simp only[c,IE.den]at hx1 hx2 hx3
   have hb0:=cY h0 HH
   have hb1:=cY h1 HH
   obtain⟨rfl,_⟩:=dZ h0
   obtain⟨rfl,_⟩:=dZ h1
   refine(callsIn_wide.1 (afz l (ρ.k b0) (ρ.k b1) (x0.den ρ) (x1.den ρ) hx1 hx2 hx3 (fun W=>∃p,J p W) Jx (fun A B ⟨p,hp⟩ ho=>⟨p,hst p A B hp ho⟩) hsx (fun W y ⟨p,hW⟩ g0 g1=>?_) w hb0.cell hb1.cell ⟨0,hJ⟩)).mono fun e W' he=>⟨he.1,he.2.imp (fun⟨p,hp⟩=>⟨p,fun _ _ _=>aj _,hp⟩) (fun h=>h)⟩
   refine(hY p W (.int .i64 y) hW fun ρx hρx hpx=>⟨eG ρx (q+1) y,dT ρx (q+1) y,?_,?_,fun id o q hq=>(by cases hq)⟩).mono fun e W' he=>⟨he.1,he.2.imp (fun h=>⟨h.1,_,h.2⟩) (fun h=>h)⟩
   ·have hag:=Oe hn hx hρx y
    refine aa.2 ⟨?_,aa.2 ⟨?_,aj _⟩⟩
    ·rw[leq,bD,m5 hH h1 (Nat.le_refl _) hag];simpa [v,c,IE.den,eG] using g0
    ·rw[leq,bD,m5 hH h0 (Nat.le_refl _) hag];simpa [v,c,IE.den,eG] using g1
   ·simp[SV.den,IE.den,eG]
  ·cases h
 ·cases h
theorem YW{H:af}{e:TypeId}{k:IntKind}{s:SV}{id:Nat}{m:IE}(h:vm H e k s=some (id,m))(he:e≠0){C:bp}{ρ:ap}{w:World}(HH:HD C ρ H w):
 (s.den ρ=.slice none 0 0∧(m.den ρ).toNat=0)∨(ρ.b id=true∧∃cc,s.den ρ=.slice (some ⟨ρ.k id,ρ.f id 0,none⟩) (m.den ρ).toNat cc∧(m.den ρ).toNat≤cc):=by
 obtain⟨rfl,le,hl⟩:=tQ h
 have hr:=HH.rows id false _ hl
 simp only[am.holds]at hr
 cases hb:ρ.b id
 ·refine .inl ?_
  rcases(hr.1 hb).2 with h|⟨h,_⟩
  ·exact⟨h,(hr.1 hb).1⟩
  ·exact absurd h he
 ·obtain⟨cs,cc,h1,h2,h3,h4,h5⟩:=hr.2 hb
  exact .inr ⟨rfl,cc,h1,h4⟩
theorem YX{H:af}{e:TypeId}{k:IntKind}{s:SV}{id:Nat}{m:IE}(h:vm H e k s=some (id,m))(he:e≠0){ρ:ap}(hb:ρ.b id=true){W:World}(hR:Rd ρ H [id] W):
 ∃cs,W.heap[ρ.k id]? =some (.cells cs e (0,0))∧∀i,i<(m.den ρ).toNat→∃v:Int,cs[ρ.f id 0+i]? =some (.int k v):=by
 obtain⟨rfl,le,hl⟩:=tQ h
 have hr:=hR id (by simp) _ hl
 simp only[am.holds]at hr
 obtain⟨cs,cc,h1,h2,h3,h4,h5⟩:=hr.2 hb
 have he':Nat.beq e 0=false:=by
  cases hh:Nat.beq e 0
  ·rfl
  ·exact absurd (Nat.eq_of_beq_eq_true hh) he
 refine⟨cs,h2.get he',fun i hi=>⟨le.den ρ i 0,?_⟩⟩
 have:=h5 i hi 0 (.int k) rfl
 simpa [CK.v] using this
theorem PG{caps:List SV}{H:af}{n q:Nat}{r:Wo}(h:HW caps H q=some r)(hH:af.avo n ay H=true)(hn:n≤q)(hx:r.nx≤ay)(C:bp)(ρ:ap)(w:World)(HH:HD C ρ H w)(hv:ar ρ r.vcs):
 oD Tryz.prog 193 (caps.map (SV.den ρ)).toArray (r.own.map ρ.k) (Rd ρ H r.rd) (YOf ρ H n q r) (vj ρ n q r) w:=by
 unfold HW at h
 split at h
 ·split at h
  ·rename_i b0 s b1 x1 b2 x2 h0 h1 h2
   split at h
   ·rename_i id m hrow
    obtain rfl:=Option.some.inj h
    intro l J Jx hst hsx hR hY hJ
    have v1:=bD.1 (aa.1 hv).1
    have v2:=bD.1 (aa.1 (aa.1 hv).2).1
    have v3:=fC.1 (aa.1 (aa.1 (aa.1 hv).2).2).1
    have v4:=bD.1 (aa.1 (aa.1 (aa.1 (aa.1 hv).2).2).2).1
    have v5:=fC.1 (aa.1 (aa.1 (aa.1 (aa.1 (aa.1 hv).2).2).2).2).1
    simp only[c,IE.den]at v1 v2 v3 v4 v5
    have hb0:=cY h0 HH
    have hb1:=cY h1 HH
    have hb2:=cY h2 HH
    obtain⟨rfl,_⟩:=dZ h0
    obtain⟨rfl,_⟩:=dZ h1
    obtain⟨rfl,_⟩:=dZ h2
    have hend:∀(e:Ending) (W':World),((∃v,e=.returned v)∧((∃p,J p W')∨Jx W'))→(∃v,e=.returned v)∧((∃p,vj ρ n q {own:=[b0,b1,b2],rd:=[id],vcs:=[leq m (c 1000000),leq (c 0) x1,lss x1 (c 18446744073709551616),leq (c 0) x2,lss x2 (c 18446744073709551616)],nx:=q+2,s:=.int .i64 (.var (q+1)),fs:=[.rel xj [v (q+1),x1,x2] []],log:=[],fin:=[]} p∧J p W')∨Jx W'):=
     fun e W' he=>⟨he.1,he.2.imp (fun⟨p,hp⟩=>⟨p,fun _ _ _=>aj _,hp⟩) (fun h=>h)⟩
    rcases YW hrow (by decide) HH with⟨hs,_⟩|⟨hbt,cc,hs,hcc⟩
    ·rw[hs]at hb0
     exact(callsIn_wide.1 (adk l (ρ.k b0) (ρ.k b1) (ρ.k b2) (x1.den ρ) (x2.den ρ) (fun W=>∃p,J p W) Jx w hb0 hb1 hb2 ⟨0,hJ⟩)).mono hend
    ·refine(callsIn_wide.1 (ag5 l (ρ.k b0) (ρ.k b1) (ρ.k b2) (s.den ρ) (ρ.k id) (ρ.f id 0) (m.den ρ).toNat cc (by omega) (x1.den ρ) (x2.den ρ) ⟨v2,v3⟩ ⟨v4,v5⟩ (fun W=>∃p,J p W) Jx (fun A B ⟨p,hp⟩ ho=>⟨p,hst p A B hp ho⟩) hsx (fun W y ⟨p,hW⟩ g=>?_) hs (fun W ⟨p,hW⟩=>?_) w hb0 hb1 hb2 ⟨0,hJ⟩)).mono hend
     ·refine(hY p W (.int .i64 y) hW fun ρx hρx hpx=>⟨eG ρx (q+1) y,dT ρx (q+1) y,aa.2 ⟨?_,aj _⟩,?_,fun id o q hq=>(by cases hq)⟩).mono fun e W' he=>⟨he.1,he.2.imp (fun h=>⟨h.1,_,h.2⟩) (fun h=>h)⟩
      ·have hag:=Oe hn hx hρx y
       simp only[F.holds,xj,xu,List.map_cons,List.map_nil,m5 hH h1 (Nat.le_refl _) hag,m5 hH h2 (Nat.le_refl _) hag]
       have e:IE.den (eG ρx (q+1) y) (v (q+1))=y:=by simp[v,IE.den,eG]
       rw[e]
       exact .inr g
      ·simp[SV.den,IE.den,eG]
     ·obtain⟨cs,g1,g2⟩:=YX hrow (by decide) hbt (hR p W hW)
      exact⟨cs,3,(0,0),g1,g2⟩
   ·cases h
  ·cases h
 ·cases h
def fH(ρ:ap)(n:Nat)(E:Int)(kk off:Nat)(x:Value)(ll:LL):ap:=
 {ρ with i:=fun v=>if v=n then E else ρ.i v,b:=fun v=>if v=n then true else ρ.b v,k:=fun v=>if v=n then kk else ρ.k v,f:=fun v=>if v=n then(fun _=>off)else ρ.f v,l:=fun v=>if v=n then ll else ρ.l v,x:=fun v=>if v=n then x else ρ.x v}
theorem vq(ρ:ap)(n:Nat)(E:Int)(kk off:Nat)(x:Value)(ll:LL):b7 n (n+1) ρ (fH ρ n E kk off x ll):=by
 constructor<;>intro v hv<;>first|rfl|(simp only[fH];rw[if_neg (by omega)])
theorem tR{gf t e:Nat}{k:IntKind}(he:e≠0)
 (hch:∀(l B0 B1:Nat) (sv:Value) (bb off m cc:Nat),m≤1000000→∀(n:Int),(1≤n∧n≤8)→∀(J:Nat→World→Prop) (Jx:World→Prop),
   (∀p A B',J p A→dX [B0,B1] A B'→J p B')→(∀A B',Jx A→dX [B0,B1] A B'→Jx B')→
   (∀p W (i e:Nat),J p W→(i:Int)=(p:Int)*n→i+e≤m→1≤e→(e:Int)≤n→((e:Int)=n∨i+e=m)→YieldAt Fence.wide 9 Tryz.prog l #[.slice (some ⟨bb,off+i,none⟩) e e] W fun e W'=>(∀b,b∈[B0,B1]→W'.heap[b]? =W.heap[b]?)∧((e=.returned (.bool true)∧J (p+1) W')∨(e=.returned (.bool false)∧Jx W')))→
   sv=.slice (some ⟨bb,off,none⟩) m cc→m≤cc→(∀p W,J p W→∃cs f z,W.heap[bb]? =some (.cells cs f z))→∀(W:World),Boxed W B0 t sv→Boxed W B1 3 (.int .i64 n)→J 0 W→
   CallsIn Fence.wide 10 Tryz.prog gf #[.func (.yield l) #[] #[],.pointer (some ⟨B0,0,none⟩),.pointer (some ⟨B1,0,none⟩)] W fun e W'=>(∃v,e=.returned v)∧((∃p:Nat,(m:Int)≤(p:Int)*n∧(p=0∨((p:Int)-1)*n<m)∧J p W')∨Jx W'))
 (hcn:∀(l B0 B1:Nat) (n:Int) (J Jx:World→Prop) (W:World),Boxed W B0 t (.slice none 0 0)→Boxed W B1 3 (.int .i64 n)→J W→
   CallsIn Fence.wide 10 Tryz.prog gf #[.func (.yield l) #[] #[],.pointer (some ⟨B0,0,none⟩),.pointer (some ⟨B1,0,none⟩)] W fun e W'=>(∃v,e=.returned v)∧(J W'∨Jx W'))
 {caps:List SV} {H:af} {n q:Nat} {r:Wo} (h:sa t e k caps H q=some r) (hH:af.avo n ay H=true) (hn:n≤q) (hx:r.nx≤ay) (C:bp) (ρ:ap) (w:World) (HH:HD C ρ H w) (hv:ar ρ r.vcs):
 oD Tryz.prog gf (caps.map (SV.den ρ)).toArray (r.own.map ρ.k) (Rd ρ H r.rd) (YOf ρ H n q r) (vj ρ n q r) w:=by
 unfold sa at h
 split at h
 ·split at h
  ·rename_i b0 s b1 z h0 h1
   split at h
   ·rename_i id m hrow
    obtain rfl:=Option.some.inj h
    intro l J Jx hst hsx hR hY hJ
    have v1:=bD.1 (aa.1 hv).1
    have v2:=bD.1 (aa.1 (aa.1 hv).2).1
    have v3:=bD.1 (aa.1 (aa.1 (aa.1 hv).2).2).1
    simp only[c,IE.den]at v1 v2 v3
    have hb0:=cY h0 HH
    have hb1:=cY h1 HH
    obtain⟨rfl,_⟩:=dZ h0
    obtain⟨rfl,_⟩:=dZ h1
    obtain⟨hsx',le,hl⟩:=tQ hrow
    have hmav:m.avo n ay=true:=by
     have:=(af.al hH hl).2
     simp only[aY.avo,am.avo,Bool.and_eq_true]at this
     exact this.1
    have hfin:∀p:Nat,((m.den ρ).toNat:Int)≤(p:Int)*z.den ρ→(p=0∨((p:Int)-1)*z.den ρ<(m.den ρ).toNat)→∀ρx,b7 n ay ρ ρx→ρx.i q=(p:Int)→
     ar ρx [leq (.nat m) (.mul (v q) z),.be (.ite (.cmp .eql (v q) (c 0)) (.lit true) (.cmp .lss (.mul (.sub (v q) (c 1)) z) (.nat m))),leq (c 0) (v q)]:=by
     intro p g1 g2 ρx hρx hpx
     have em:m.den ρx=m.den ρ:=IE.ag hρx m hmav
     have ez:z.den ρx=z.den ρ:=m5 hH h1 (Nat.le_refl _) hρx
     refine aa.2 ⟨?_,aa.2 ⟨?_,aa.2 ⟨?_,aj _⟩⟩⟩
     ·rw[leq,bD];simp only[v,IE.den,em,ez,hpx];exact g1
     ·simp only[F.holds,BE.den,v,c,IE.den,bv,em,ez,hpx]
      rcases g2 with rfl|g2
      ·simp
      ·have g2':decide (((p:Int)-1)*z.den ρ<((m.den ρ).toNat:Int))=true:=decide_eq_true g2
       rw[g2']
       cases((p:Int)==0)<;>rfl
     ·rw[leq,bD];simp only[v,c,IE.den,hpx];omega
    rcases YW hrow he HH with⟨hs,hm0⟩|⟨hbt,cc,hs,hcc⟩
    ·rw[hs]at hb0
     exact(callsIn_wide.1 (hcn l (ρ.k b0) (ρ.k b1) (z.den ρ) (J 0) Jx w hb0 hb1 hJ)).mono fun e W' hh=>⟨hh.1,hh.2.imp (fun h=>⟨0,hfin 0 (by rw[hm0];simp) (.inl rfl),h⟩) (fun h=>h)⟩
    ·refine(callsIn_wide.1 (hch l (ρ.k b0) (ρ.k b1) (s.den ρ) (ρ.k id) (ρ.f id 0) (m.den ρ).toNat cc (by omega) (z.den ρ) ⟨v2,v3⟩ J Jx hst hsx (fun p W i E hW gi g0 g1 g2 g3=>?_) hs hcc (fun p W hW=>?_) w hb0 hb1 hJ)).mono fun e W' hh=>⟨hh.1,hh.2.imp (fun⟨p,a1,a2,a3⟩=>⟨p,hfin p a1 a2,a3⟩) (fun h=>h)⟩
     ·subst hsx'
      have hr:=hR p W hW id (by simp) _ hl
      simp only[am.holds]at hr
      obtain⟨cs,c',q1,q2,q3,q4,q5⟩:=hr.2 hbt
      refine hY p W _ hW fun ρx hρx hpx=>⟨fH ρx (q+1) E (ρ.k id) (ρ.f id 0+i) (.slice (some ⟨ρ.k id,ρ.f id 0+i,none⟩) E E) (fun a b=>le.den ρ (i+a) b),vq _ _ _ _ _ _ _,?_,?_,fun id' o qq hq=>?_⟩
      ·have hag:b7 n ay ρ (fH ρx (q+1) E (ρ.k id) (ρ.f id 0+i) (.slice (some ⟨ρ.k id,ρ.f id 0+i,none⟩) E E) (fun a b=>le.den ρ (i+a) b)):=
        hρx.trans ((vq ρx (q+1) E _ _ _ _).mono (by omega) hx) (Nat.le_refl _) (Nat.le_refl _)
       have em:=IE.ag hag m hmav
       have ez:=m5 hH h1 (Nat.le_refl _) hag
       have eE:IE.den (fH ρx (q+1) E (ρ.k id) (ρ.f id 0+i) (.slice (some ⟨ρ.k id,ρ.f id 0+i,none⟩) E E) (fun a b=>le.den ρ (i+a) b)) (v (q+1))=E:=by simp[v,IE.den,fH]
       have eq':IE.den (fH ρx (q+1) E (ρ.k id) (ρ.f id 0+i) (.slice (some ⟨ρ.k id,ρ.f id 0+i,none⟩) E E) (fun a b=>le.den ρ (i+a) b)) (v q)=(p:Int):=by simp[v,IE.den,fH,hpx]
       refine aa.2 ⟨?_,aa.2 ⟨?_,aa.2 ⟨?_,aa.2 ⟨?_,aj _⟩⟩⟩⟩
       ·rw[leq,bD,eE];simp only[c,IE.den];omega
       ·rw[leq,bD,eE,ez];exact g2
       ·rw[leq,bD];simp only[IE.den,eE,eq',em,ez];rw[←gi];omega
       ·simp only[F.holds,BE.den,IE.den,bv,eE,eq',em,ez,←gi]
        rcases g3 with g3|g3
        ·simp[g3]
        ·have:((i:Int)+(E:Int))=((m.den ρ).toNat:Int):=by omega
         simp[this]
      ·simp[SV.den,fH]
      ·simp only[ak]at hq
       split at hq
       ·rename_i hk
        obtain⟨rfl,rfl⟩:=aY.row.inj (Option.some.inj hq)
        obtain rfl:=aO.h.inj hk
        refine⟨rfl,?_,fun b hb=>⟨id,_,by simp,hl,?_⟩⟩
        ·simp only[am.holds]
         refine⟨fun hf=>(by simp[fH]at hf),fun _=>⟨cs,E,?_,?_,?_,?_,fun i' hi' j k' hk'=>?_⟩⟩
         ·simp[fH,IE.den]
         ·simpa [fH] using q2
         ·refine .inr ?_
          rcases q3 with q3|q3
          ·exact absurd q3 he
          ·simp only[List.length_cons,List.length_nil,fH,if_true]at q3⊢
           have hcc':c'=cc:=by
            simp only[SV.den]at hs
            rw[hs]at q1
            injection q1 with _ _ h
            exact h.symm
           omega
         ·simp[fH,IE.den]
         ·simp only[IE.den,fH,if_true]at hi'
          cases j with
          |succ j=>simp at hk'
          |zero=>
           simp only[List.getElem?_cons_zero,Option.some.injEq]at hk'
           subst hk'
           have:=q5 (i+i') (by omega) 0 (.int k) rfl
           simp only[CK.v,LE.den,fH,if_true,List.length_cons,List.length_nil,Nat.zero_add,Nat.mul_one,Nat.add_zero]at this⊢
           rw[←this];congr 1;omega
        ·simp only[am.owns,fH,if_true]at hb⊢
         exact⟨hbt,hb.2⟩
       ·cases hq
     ·obtain⟨cs,g1,g2⟩:=YX hrow he hbt (hR p W hW)
      exact⟨cs,e,(0,0),g1⟩
   ·cases h
  ·cases h
 ·cases h
theorem jh{α:Type}{b:Bool}{x y z:α}(h:(bif b then x else y)=z):(b=true∧x=z)∨(b=false∧y=z):=by
 cases b
 ·exact .inr ⟨rfl,h⟩
 ·exact .inl ⟨rfl,h⟩
theorem adl:Yz Tryz.prog itF:=by
 intro gf caps H n q r h hH hn hx C ρ w HH hv
 unfold itF at h
 rcases jh h with⟨e,h⟩|⟨_,h⟩
 ·obtain rfl:=Nat.eq_of_beq_eq_true e;exact D4 h hH hn hx C ρ w HH hv
 rcases jh h with⟨e,h⟩|⟨_,h⟩
 ·obtain rfl:=Nat.eq_of_beq_eq_true e;exact PG h hH hn hx C ρ w HH hv
 rcases jh h with⟨e,h⟩|⟨_,h⟩
 ·obtain rfl:=Nat.eq_of_beq_eq_true e;exact PF h hH hn hx C ρ w HH hv
 rcases jh h with⟨e,h⟩|⟨_,h⟩
 ·obtain rfl:=Nat.eq_of_beq_eq_true e;exact tR (by decide) YU PD h hH hn hx C ρ w HH hv
 rcases jh h with⟨e,h⟩|⟨_,h⟩
 ·obtain rfl:=Nat.eq_of_beq_eq_true e;exact tR (by decide) YV PE h hH hn hx C ρ w HH hv
 ·cases h
theorem m6{cs:List bg}(hcs:aS cs)(ann:cj){c:bg}{want:dU}(hw:ab want)(ks:List Nat)(h:tw c want ks (YE Tryz.prog (Ht cs) ann itF 12 12 c.f c.args c.M c.H0 c.pre)=true):c.ok Tryz.prog:=
 CJ (Pz qP CS (jY hcs) ann adl 12 12) hw h
end Go.Proofs.YteelgjcnkhmigaaGreatDoor.K
