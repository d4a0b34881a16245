/- Part 0 of the proofs of TopPhases, TopDoors and TopCutOff (over all inputs, no condition): the executor, and what the functions that they reach do. -/
import Derived.Below
import Derived.Orders
import Derived.Laws.StructEq
import Derived.Deep.AppendSrc
import Derived.Deep.Upon
import Derived.Laws.MakeOwn
import Derived.Laws.Slices
import Derived.Laws.IdiomCopy
import Derived.MapKept
import Derived.Laws.LoneSync
set_option linter.unusedVariables false
set_option linter.unusedSimpArgs false
set_option linter.unusedSectionVars false
set_option maxHeartbeats 0
set_option maxRecDepth 100000
namespace Go.Proofs.YteelgjcnkhmigaaGreatDoor.E
open Go.RowKit
structure ap where
 i:Nat→Int
 b:Nat→Bool
 k:Nat→Nat
 f:Nat→Nat→Nat
 l:Nat→Nat→Nat→Int
 x:Nat→Value
 y:Nat→Nat→Value
mutual
inductive IE where
 |lit (n:Int)
 |var (v:Nat)
 |add (a b:IE)
 |sub (a b:IE)
 |mul (a b:IE)
 |wrap (k:IntKind) (a:IE)
 |quo (a b:IE)
 |rem (a b:IE)
 |bits (op:BinOp) (k:IntKind) (a b:IE)
 |shl (k:IntKind) (a b:IE)
 |shr (k:IntKind) (a b:IE)
 |mx (a b:IE)
 |mn (a b:IE)
 |ite (c:BE) (a b:IE)
 |nat (a:IE)
 |get (l:LE) (i:IE) (c:Nat)
inductive BE where
 |lit (b:Bool)
 |var (v:Nat)
 |not (a:BE)
 |cmp (op:BinOp) (a b:IE)
 |ite (c a b:BE)
 |eqb (a b:BE)
inductive LE where
 |var (v:Nat)
 |upd (l:LE) (i:IE) (c:Nat) (e:IE)
 |ite (c:BE) (a b:LE)
end
def bv(op:BinOp)(x y:Int):Bool:=
 match op with
 |.eql=>x==y
 |.neq=>x !=y
 |.lss=>decide (x<y)
 |.leq=>decide (x≤y)
 |.gtr=>decide (x>y)
 |.geq=>decide (x≥y)
 |_=>false
def aQ(op:BinOp)(k:IntKind)(x y:Int):Int:=
 let a:=BitVec.ofInt k.bits x
 let b:=BitVec.ofInt k.bits y
 k.wrap (match op with
  |.and=>(a&&&b).toNat
  |.or=>(a|||b).toNat
  |.xor=>(a ^^^ b).toNat
  |_=>(a&&&~~~b).toNat)
def n5(k:IntKind)(x y:Int):Int:=k.wrap (x*2 ^ (min y.toNat k.bits))
def Wq(k:IntKind)(x y:Int):Int:=x.fdiv (2 ^ (min y.toNat k.bits))
def mxI(x y:Int):Int:=if y>x then y else x
def mnI(x y:Int):Int:=if y<x then y else x
def ah(l:Nat→Nat→Int)(i:Int)(c:Nat)(v:Int):Nat→Nat→Int:=
 fun j d=>if j=i.toNat∧d=c then v else l j d
mutual
def IE.den(ρ:ap):IE→Int
 |.lit n=>n
 |.var v=>ρ.i v
 |.add a b=>a.den ρ+b.den ρ
 |.sub a b=>a.den ρ-b.den ρ
 |.mul a b=>a.den ρ*b.den ρ
 |.wrap k a=>k.wrap (a.den ρ)
 |.quo a b=>(a.den ρ).tdiv (b.den ρ)
 |.rem a b=>(a.den ρ).tmod (b.den ρ)
 |.bits op k a b=>aQ op k (a.den ρ) (b.den ρ)
 |.shl k a b=>n5 k (a.den ρ) (b.den ρ)
 |.shr k a b=>Wq k (a.den ρ) (b.den ρ)
 |.mx a b=>mxI (a.den ρ) (b.den ρ)
 |.mn a b=>mnI (a.den ρ) (b.den ρ)
 |.ite c a b=>if c.den ρ then a.den ρ else b.den ρ
 |.nat a=>((a.den ρ).toNat:Int)
 |.get l i c=>l.den ρ (i.den ρ).toNat c
def BE.den(ρ:ap):BE→Bool
 |.lit b=>b
 |.var v=>ρ.b v
 |.not a=>!(a.den ρ)
 |.cmp op a b=>bv op (a.den ρ) (b.den ρ)
 |.ite c a b=>if c.den ρ then a.den ρ else b.den ρ
 |.eqb a b=>a.den ρ==b.den ρ
def LE.den(ρ:ap):LE→Nat→Nat→Int
 |.var v=>ρ.l v
 |.upd l i c e=>ah (l.den ρ) (i.den ρ) c (e.den ρ)
 |.ite c a b=>if c.den ρ then a.den ρ else b.den ρ
end
structure b7 (lo hi:Nat) (ρ σ:ap):Prop where
 i:∀v,v<lo∨hi≤v→σ.i v=ρ.i v
 b:∀v,v<lo∨hi≤v→σ.b v=ρ.b v
 k:∀v,v<lo∨hi≤v→σ.k v=ρ.k v
 f:∀v,v<lo∨hi≤v→σ.f v=ρ.f v
 l:∀v,v<lo∨hi≤v→σ.l v=ρ.l v
 x:∀v,v<lo∨hi≤v→σ.x v=ρ.x v
 y:∀v,v<lo∨hi≤v→σ.y v=ρ.y v
theorem b7.refl(lo hi:Nat)(ρ:ap):b7 lo hi ρ ρ:=⟨fun _ _=>rfl,fun _ _=>rfl,fun _ _=>rfl,fun _ _=>rfl,fun _ _=>rfl,fun _ _=>rfl,fun _ _=>rfl⟩
theorem b7.trans{a b c d:Nat}{ρ σ τ:ap}(h:b7 a b ρ σ)(g:b7 c d σ τ)(hb:b≤d)(hc:a≤c):b7 a d ρ τ:=by
 constructor<;>intro v hv
 ·rw[g.i v (by omega),h.i v (by omega)]
 ·rw[g.b v (by omega),h.b v (by omega)]
 ·rw[g.k v (by omega),h.k v (by omega)]
 ·rw[g.f v (by omega),h.f v (by omega)]
 ·rw[g.l v (by omega),h.l v (by omega)]
 ·rw[g.x v (by omega),h.x v (by omega)]
 ·rw[g.y v (by omega),h.y v (by omega)]
theorem b7.mono{a b c d:Nat}{ρ σ:ap}(h:b7 a b ρ σ)(hc:c≤a)(hd:b≤d):b7 c d ρ σ:=by
 constructor<;>intro v hv
 ·exact h.i v (by omega)
 ·exact h.b v (by omega)
 ·exact h.k v (by omega)
 ·exact h.f v (by omega)
 ·exact h.l v (by omega)
 ·exact h.x v (by omega)
 ·exact h.y v (by omega)
def off(lo hi v:Nat):Bool:=Nat.blt v lo||Nat.ble hi v
theorem aF{lo hi v:Nat}(h:off lo hi v=true):v<lo∨hi≤v:=by
 unfold off at h
 rcases Bool.or_eq_true_iff.1 h with h|h
 ·exact .inl (Nat.le_of_ble_eq_true h)
 ·exact .inr (Nat.le_of_ble_eq_true h)
mutual
def IE.avo(lo hi:Nat):IE→Bool
 |.lit _=>true
 |.var v=>off lo hi v
 |.add a b|.sub a b|.mul a b|.quo a b|.rem a b|.mx a b|.mn a b=>a.avo lo hi&&b.avo lo hi
 |.bits _ _ a b|.shl _ a b|.shr _ a b=>a.avo lo hi&&b.avo lo hi
 |.wrap _ a|.nat a=>a.avo lo hi
 |.ite c a b=>c.avo lo hi&&(a.avo lo hi&&b.avo lo hi)
 |.get l i _=>l.avo lo hi&&i.avo lo hi
def BE.avo(lo hi:Nat):BE→Bool
 |.lit _=>true
 |.var v=>off lo hi v
 |.not a=>a.avo lo hi
 |.cmp _ a b=>a.avo lo hi&&b.avo lo hi
 |.ite c a b=>c.avo lo hi&&(a.avo lo hi&&b.avo lo hi)
 |.eqb a b=>a.avo lo hi&&b.avo lo hi
def LE.avo(lo hi:Nat):LE→Bool
 |.var v=>off lo hi v
 |.upd l i _ e=>l.avo lo hi&&(i.avo lo hi&&e.avo lo hi)
 |.ite c a b=>c.avo lo hi&&(a.avo lo hi&&b.avo lo hi)
end
mutual
theorem IE.ag{lo hi:Nat}{ρ σ:ap}(h:b7 lo hi ρ σ):∀e:IE,e.avo lo hi=true→e.den σ=e.den ρ
 |.lit _,_=>rfl
 |.var v,g=>h.i v (aF g)
 |.add a b,g=>by simp only[IE.avo,Bool.and_eq_true]at g;simp only[IE.den,IE.ag h a g.1,IE.ag h b g.2]
 |.sub a b,g=>by simp only[IE.avo,Bool.and_eq_true]at g;simp only[IE.den,IE.ag h a g.1,IE.ag h b g.2]
 |.mul a b,g=>by simp only[IE.avo,Bool.and_eq_true]at g;simp only[IE.den,IE.ag h a g.1,IE.ag h b g.2]
 |.quo a b,g=>by simp only[IE.avo,Bool.and_eq_true]at g;simp only[IE.den,IE.ag h a g.1,IE.ag h b g.2]
 |.rem a b,g=>by simp only[IE.avo,Bool.and_eq_true]at g;simp only[IE.den,IE.ag h a g.1,IE.ag h b g.2]
 |.mx a b,g=>by simp only[IE.avo,Bool.and_eq_true]at g;simp only[IE.den,IE.ag h a g.1,IE.ag h b g.2]
 |.mn a b,g=>by simp only[IE.avo,Bool.and_eq_true]at g;simp only[IE.den,IE.ag h a g.1,IE.ag h b g.2]
 |.bits _ _ a b,g=>by simp only[IE.avo,Bool.and_eq_true]at g;simp only[IE.den,IE.ag h a g.1,IE.ag h b g.2]
 |.shl _ a b,g=>by simp only[IE.avo,Bool.and_eq_true]at g;simp only[IE.den,IE.ag h a g.1,IE.ag h b g.2]
 |.shr _ a b,g=>by simp only[IE.avo,Bool.and_eq_true]at g;simp only[IE.den,IE.ag h a g.1,IE.ag h b g.2]
 |.wrap _ a,g=>by simp only[IE.avo]at g;simp only[IE.den,IE.ag h a g]
 |.nat a,g=>by simp only[IE.avo]at g;simp only[IE.den,IE.ag h a g]
 |.ite c a b,g=>by simp only[IE.avo,Bool.and_eq_true]at g;simp only[IE.den,BE.ag h c g.1,IE.ag h a g.2.1,IE.ag h b g.2.2]
 |.get l i _,g=>by simp only[IE.avo,Bool.and_eq_true]at g;simp only[IE.den,LE.ag h l g.1,IE.ag h i g.2]
theorem BE.ag{lo hi:Nat}{ρ σ:ap}(h:b7 lo hi ρ σ):∀e:BE,e.avo lo hi=true→e.den σ=e.den ρ
 |.lit _,_=>rfl
 |.var v,g=>h.b v (aF g)
 |.not a,g=>by simp only[BE.avo]at g;simp only[BE.den,BE.ag h a g]
 |.cmp _ a b,g=>by simp only[BE.avo,Bool.and_eq_true]at g;simp only[BE.den,IE.ag h a g.1,IE.ag h b g.2]
 |.ite c a b,g=>by simp only[BE.avo,Bool.and_eq_true]at g;simp only[BE.den,BE.ag h c g.1,BE.ag h a g.2.1,BE.ag h b g.2.2]
 |.eqb a b,g=>by simp only[BE.avo,Bool.and_eq_true]at g;simp only[BE.den,BE.ag h a g.1,BE.ag h b g.2]
theorem LE.ag{lo hi:Nat}{ρ σ:ap}(h:b7 lo hi ρ σ):∀e:LE,e.avo lo hi=true→e.den σ=e.den ρ
 |.var v,g=>h.l v (aF g)
 |.upd l i _ e,g=>by simp only[LE.avo,Bool.and_eq_true]at g;simp only[LE.den,LE.ag h l g.1,IE.ag h i g.2.1,IE.ag h e g.2.2]
 |.ite c a b,g=>by simp only[LE.avo,Bool.and_eq_true]at g;simp only[LE.den,BE.ag h c g.1,LE.ag h a g.2.1,LE.ag h b g.2.2]
end
def Wr(a b:BinOp):Bool:=
 match a,b with
 |.add,.add|.sub,.sub|.mul,.mul|.quo,.quo|.rem,.rem|.and,.and|.or,.or|.xor,.xor|.shl,.shl|.shr,.shr|.andNot,.andNot
 |.eql,.eql|.neq,.neq|.lss,.lss|.leq,.leq|.gtr,.gtr|.geq,.geq=>true
 |_,_=>false
theorem rS{a b:BinOp}(h:Wr a b=true):a=b:=by cases a<;>cases b<;>first|rfl|cases h
def gw(a b:IntKind):Bool:=
 match a,b with
 |.i8,.i8|.i16,.i16|.i32,.i32|.i64,.i64|.u8,.u8|.u16,.u16|.u32,.u32|.u64,.u64=>true
 |_,_=>false
theorem bY{a b:IntKind}(h:gw a b=true):a=b:=by cases a<;>cases b<;>first|rfl|cases h
def iEq(a b:Int):Bool:=
 match a,b with
 |.ofNat m,.ofNat n=>Nat.beq m n
 |.negSucc m,.negSucc n=>Nat.beq m n
 |_,_=>false
theorem sw{a b:Int}(h:iEq a b=true):a=b:=by
 cases a<;>cases b<;>first|(cases h;done)|(exact congrArg _ (Nat.eq_of_beq_eq_true h))
mutual
def IE.eq:IE→IE→Bool
 |.lit m,.lit n=>iEq m n
 |.var v,.var u=>Nat.beq v u
 |.add a b,.add c d|.sub a b,.sub c d|.mul a b,.mul c d|.quo a b,.quo c d|.rem a b,.rem c d|.mx a b,.mx c d|.mn a b,.mn c d=>a.eq c&&b.eq d
 |.wrap k a,.wrap j c=>gw k j&&a.eq c
 |.bits o k a b,.bits p j c d=>Wr o p&&(gw k j&&(a.eq c&&b.eq d))
 |.shl k a b,.shl j c d|.shr k a b,.shr j c d=>gw k j&&(a.eq c&&b.eq d)
 |.ite x a b,.ite y c d=>x.eq y&&(a.eq c&&b.eq d)
 |.nat a,.nat c=>a.eq c
 |.get l i c,.get m j d=>Nat.beq c d&&(i.eq j&&l.eq m)
 |_,_=>false
def BE.eq:BE→BE→Bool
 |.lit m,.lit n=>m==n
 |.var v,.var u=>Nat.beq v u
 |.not a,.not b=>a.eq b
 |.cmp o a b,.cmp p c d=>Wr o p&&(a.eq c&&b.eq d)
 |.ite x a b,.ite y c d=>x.eq y&&(a.eq c&&b.eq d)
 |.eqb a b,.eqb c d=>a.eq c&&b.eq d
 |_,_=>false
def LE.eq:LE→LE→Bool
 |.var v,.var u=>Nat.beq v u
 |.upd l i c e,.upd m j d f=>Nat.beq c d&&(i.eq j&&(e.eq f&&l.eq m))
 |.ite x a b,.ite y c d=>x.eq y&&(a.eq c&&b.eq d)
 |_,_=>false
end
mutual
theorem IE.b8:∀a b:IE,a.eq b=true→a=b:=by
 intro a b h
 cases a<;>cases b<;>first
  |(cases h;done)
  |(simp only[IE.eq]at h;rw[sw h];done)
  |(simp only[IE.eq]at h;rw[Nat.eq_of_beq_eq_true h];done)
  |(simp only[IE.eq,Bool.and_eq_true]at h;rw[IE.b8 _ _ h.1,IE.b8 _ _ h.2];done)
  |(simp only[IE.eq,Bool.and_eq_true]at h;rw[bY h.1,IE.b8 _ _ h.2];done)
  |(simp only[IE.eq,Bool.and_eq_true]at h;rw[rS h.1,bY h.2.1,IE.b8 _ _ h.2.2.1,IE.b8 _ _ h.2.2.2];done)
  |(simp only[IE.eq,Bool.and_eq_true]at h;rw[bY h.1,IE.b8 _ _ h.2.1,IE.b8 _ _ h.2.2];done)
  |(simp only[IE.eq,Bool.and_eq_true]at h;rw[BE.b8 _ _ h.1,IE.b8 _ _ h.2.1,IE.b8 _ _ h.2.2];done)
  |(simp only[IE.eq]at h;rw[IE.b8 _ _ h];done)
  |(simp only[IE.eq,Bool.and_eq_true]at h;rw[Nat.eq_of_beq_eq_true h.1,IE.b8 _ _ h.2.1,LE.b8 _ _ h.2.2];done)
theorem BE.b8:∀a b:BE,a.eq b=true→a=b:=by
 intro a b h
 cases a<;>cases b<;>first
  |(cases h;done)
  |(simp only[BE.eq,beq_iff_eq]at h;rw[h];done)
  |(simp only[BE.eq]at h;rw[Nat.eq_of_beq_eq_true h];done)
  |(simp only[BE.eq]at h;rw[BE.b8 _ _ h];done)
  |(simp only[BE.eq,Bool.and_eq_true]at h;rw[rS h.1,IE.b8 _ _ h.2.1,IE.b8 _ _ h.2.2];done)
  |(simp only[BE.eq,Bool.and_eq_true]at h;rw[BE.b8 _ _ h.1,BE.b8 _ _ h.2.1,BE.b8 _ _ h.2.2];done)
  |(simp only[BE.eq,Bool.and_eq_true]at h;rw[BE.b8 _ _ h.1,BE.b8 _ _ h.2];done)
theorem LE.b8:∀a b:LE,a.eq b=true→a=b:=by
 intro a b h
 cases a<;>cases b<;>first
  |(cases h;done)
  |(simp only[LE.eq]at h;rw[Nat.eq_of_beq_eq_true h];done)
  |(simp only[LE.eq,Bool.and_eq_true]at h;rw[Nat.eq_of_beq_eq_true h.1,IE.b8 _ _ h.2.1,IE.b8 _ _ h.2.2.1,LE.b8 _ _ h.2.2.2];done)
  |(simp only[LE.eq,Bool.and_eq_true]at h;rw[BE.b8 _ _ h.1,LE.b8 _ _ h.2.1,LE.b8 _ _ h.2.2];done)
end
section
inductive PT where
 |at(id o:Nat)
 |ax (id o:Nat) (i:IE) (esz:Nat)
 |fm (fam:Nat) (i:IE) (o:Nat)
 |el (id:Nat) (i:IE) (z o:Nat)
 |fx (fam:Nat) (i:IE) (o:Nat) (x:IE) (m:Nat)
def PT.addr(ρ:ap):PT→Addr
 |.at id o=>⟨ρ.k id,o,none⟩
 |.ax id o i esz=>⟨ρ.k id,o+(i.den ρ).toNat*esz,none⟩
 |.fm fam i o=>⟨ρ.f fam (i.den ρ).toNat,o,none⟩
 |.el id i z o=>⟨ρ.k id,(ρ.f id 0)+(i.den ρ).toNat*z+o,none⟩
 |.fx fam i o x _=>⟨ρ.f fam (i.den ρ).toNat,o+(x.den ρ).toNat,none⟩
def PT.avo(lo hi:Nat):PT→Bool
 |.at id _=>off lo hi id
 |.ax id _ i _=>off lo hi id&&i.avo lo hi
 |.fm id i _=>off lo hi id&&i.avo lo hi
 |.el id i _ _=>off lo hi id&&i.avo lo hi
 |.fx id i _ x _=>off lo hi id&&(i.avo lo hi&&x.avo lo hi)
theorem PT.BJ{lo hi:Nat}{ρ σ:ap}(h:b7 lo hi ρ σ):∀p:PT,p.avo lo hi=true→p.addr σ=p.addr ρ
 |.at id o,g=>by simp only[PT.avo]at g;simp only[PT.addr,h.k _ (aF g)]
 |.ax id o i e,g=>by simp only[PT.avo,Bool.and_eq_true]at g;simp only[PT.addr,h.k _ (aF g.1),IE.ag h i g.2]
 |.fm id i o,g=>by simp only[PT.avo,Bool.and_eq_true]at g;simp only[PT.addr,h.f _ (aF g.1),IE.ag h i g.2]
 |.el id i z o,g=>by simp only[PT.avo,Bool.and_eq_true]at g;simp only[PT.addr,h.k _ (aF g.1),h.f _ (aF g.1),IE.ag h i g.2]
 |.fx id i o x m,g=>by simp only[PT.avo,Bool.and_eq_true]at g;simp only[PT.addr,h.f _ (aF g.1),IE.ag h i g.2.1,IE.ag h x g.2.2]
def PT.eq:PT→PT→Bool
 |.at a b,.at c d=>Nat.beq a c&&Nat.beq b d
 |.ax a b i e,.ax c d j f=>Nat.beq a c&&(Nat.beq b d&&(i.eq j&&Nat.beq e f))
 |.fm a i b,.fm c j d=>Nat.beq a c&&(i.eq j&&Nat.beq b d)
 |.el a i b c,.el d j e f=>Nat.beq a d&&(i.eq j&&(Nat.beq b e&&Nat.beq c f))
 |.fx a i b x c,.fx d j e y f=>Nat.beq a d&&(i.eq j&&(Nat.beq b e&&(x.eq y&&Nat.beq c f)))
 |_,_=>false
theorem PT.b8{a b:PT}(h:a.eq b=true):a=b:=by
 cases a<;>cases b<;>first
  |(cases h;done)
  |(simp only[PT.eq,Bool.and_eq_true]at h;rw[Nat.eq_of_beq_eq_true h.1,Nat.eq_of_beq_eq_true h.2];done)
  |(simp only[PT.eq,Bool.and_eq_true]at h;rw[Nat.eq_of_beq_eq_true h.1,IE.b8 _ _ h.2.1,Nat.eq_of_beq_eq_true h.2.2.1,IE.b8 _ _ h.2.2.2.1,Nat.eq_of_beq_eq_true h.2.2.2.2];done)
  |(simp only[PT.eq,Bool.and_eq_true]at h;rw[Nat.eq_of_beq_eq_true h.1,Nat.eq_of_beq_eq_true h.2.1,IE.b8 _ _ h.2.2.1,Nat.eq_of_beq_eq_true h.2.2.2];done)
  |(simp only[PT.eq,Bool.and_eq_true]at h;rw[Nat.eq_of_beq_eq_true h.1,IE.b8 _ _ h.2.1,Nat.eq_of_beq_eq_true h.2.2];done)
  |(simp only[PT.eq,Bool.and_eq_true]at h;rw[Nat.eq_of_beq_eq_true h.1,IE.b8 _ _ h.2.1,Nat.eq_of_beq_eq_true h.2.2.1,Nat.eq_of_beq_eq_true h.2.2.2];done)
inductive SV where
 |b (e:BE)
 |int (k:IntKind) (e:IE)
 |ptr (p:PT)
 |nilp
 |sl (p:PT) (len cap:IE)
 |nils
 |nilf
 |fn (f:Fn) (first cap:List SV)
 |agg (l:List SV)
 |tup (l:List SV)
 |con (v:Value)
 |opq (v:Nat)
 |map (id:Nat)
 |lst (id:Nat)
 |yv (fa:Nat) (i:IE)
mutual
def SV.den(ρ:ap):SV→Value
 |.b e=> .bool (e.den ρ)
 |.int k e=> .int k (e.den ρ)
 |.ptr p=> .pointer (some (p.addr ρ))
 |.nilp=> .pointer none
 |.sl p n c=> .slice (some (p.addr ρ)) (n.den ρ).toNat (c.den ρ).toNat
 |.nils=> .slice none 0 0
 |.nilf=> .nilFunc
 |.fn f a c=> .func f (SV.dens ρ a).toArray (SV.dens ρ c).toArray
 |.agg l=> .agg (SV.dens ρ l).toArray
 |.tup l=> .tuple (SV.dens ρ l).toArray
 |.con v=>v
 |.opq v=>ρ.x v
 |.map id=> .map (some (ρ.k id))
 |.lst id=>ρ.x id
 |.yv fa i=>ρ.y fa (i.den ρ).toNat
def SV.dens(ρ:ap):List SV→List Value
 |[]=>[]
 |s::r=>s.den ρ::SV.dens ρ r
end
theorem SV.b9(ρ:ap):∀l:List SV,SV.dens ρ l=l.map (SV.den ρ)
 |[]=>rfl
 |s::r=>by simp only[SV.dens,List.map_cons,SV.b9 ρ r]
mutual
def SV.avo(lo hi:Nat):SV→Bool
 |.b e=>e.avo lo hi
 |.int _ e=>e.avo lo hi
 |.ptr p=>p.avo lo hi
 |.sl p n c=>p.avo lo hi&&(n.avo lo hi&&c.avo lo hi)
 |.nilp|.nils|.nilf|.con _=>true
 |.fn _ a c=>SV.avos lo hi a&&SV.avos lo hi c
 |.agg l|.tup l=>SV.avos lo hi l
 |.opq v=>off lo hi v
 |.map v=>off lo hi v
 |.lst v=>off lo hi v
 |.yv v i=>off lo hi v&&i.avo lo hi
def SV.avos(lo hi:Nat):List SV→Bool
 |[]=>true
 |s::r=>s.avo lo hi&&SV.avos lo hi r
end
mutual
theorem SV.ag{lo hi:Nat}{ρ σ:ap}(h:b7 lo hi ρ σ):∀s:SV,s.avo lo hi=true→s.den σ=s.den ρ
 |.b e,g=>by simp only[SV.avo]at g;simp only[SV.den,BE.ag h e g]
 |.int _ e,g=>by simp only[SV.avo]at g;simp only[SV.den,IE.ag h e g]
 |.ptr p,g=>by simp only[SV.avo]at g;simp only[SV.den,PT.BJ h p g]
 |.sl p n c,g=>by simp only[SV.avo,Bool.and_eq_true]at g;simp only[SV.den,PT.BJ h p g.1,IE.ag h n g.2.1,IE.ag h c g.2.2]
 |.nilp,_=>rfl
 |.nils,_=>rfl
 |.nilf,_=>rfl
 |.con _,_=>rfl
 |.fn _ a c,g=>by simp only[SV.avo,Bool.and_eq_true]at g;simp only[SV.den,SV.eH h a g.1,SV.eH h c g.2]
 |.agg l,g=>by simp only[SV.avo]at g;simp only[SV.den,SV.eH h l g]
 |.tup l,g=>by simp only[SV.avo]at g;simp only[SV.den,SV.eH h l g]
 |.opq v,g=>by simp only[SV.avo]at g;simp only[SV.den,h.x _ (aF g)]
 |.map v,g=>by simp only[SV.avo]at g;simp only[SV.den,h.k _ (aF g)]
 |.lst v,g=>by simp only[SV.avo]at g;simp only[SV.den,h.x _ (aF g)]
 |.yv v i,g=>by simp only[SV.avo,Bool.and_eq_true]at g;simp only[SV.den,h.y _ (aF g.1),IE.ag h i g.2]
theorem SV.eH{lo hi:Nat}{ρ σ:ap}(h:b7 lo hi ρ σ):∀l:List SV,SV.avos lo hi l=true→SV.dens σ l=SV.dens ρ l
 |[],_=>rfl
 |s::r,g=>by simp only[SV.avos,Bool.and_eq_true]at g;simp only[SV.dens,SV.ag h s g.1,SV.eH h r g.2]
end
inductive CK where
 |int (k:IntKind)
 |bool
 |ptr (fa:Nat)
 |val (fa:Nat)
 |byte
def CK.v(c:CK)(ρ:ap)(i:Nat)(n:Int):Value:=
 match c with
 |.int k=> .int k n
 |.bool=> .bool (n !=0)
 |.ptr fa=> .pointer (some ⟨ρ.f fa i,0,none⟩)
 |.val fa=>ρ.y fa i
 |.byte=> .int .u8 (IntKind.u8.wrap n)
def CK.avo(lo hi:Nat):CK→Bool
 |.ptr fa=>off lo hi fa
 |.val fa=>off lo hi fa
 |_=>true
theorem CK.MM{lo hi:Nat}{ρ σ:ap}(h:b7 lo hi ρ σ){c:CK}(g:c.avo lo hi=true)(i:Nat)(n:Int):c.v σ i n=c.v ρ i n:=by
 cases c<;>first|rfl|(simp only[CK.avo]at g;simp only[CK.v,h.f _ (aF g)];done)|(simp only[CK.avo]at g;simp only[CK.v,h.y _ (aF g)];done)
inductive am where
 |cells (elem:TypeId) (l:List SV)
 |lst (elem:TypeId) (ks:List CK) (n:IE) (le:LE)
 |fam (elem:TypeId) (ks:List CK) (n:IE) (le:LE)
 |any (elem:TypeId) (size:Nat)
 |mp (l:Option (List (Int×Nat)))
 |mi (l:List Int)
 |glob (e:TypeId) (g:Nat) (k:IntKind) (l:List Int)
 |sls (e:TypeId) (ks:List IntKind) (n:IE) (le:LE)
def slB(e:TypeId):Nat:=bif Nat.beq e 0 then 4611686018427387904 else 1000000
def nw(w:World)(e:TypeId)(ks:List IntKind)(len:Int)(y:Value):Prop:=
 (∃a c,y=.slice a 0 c∧(e=0∨(a=none∧c=0))∧len=0)∨∃(b off m c:Nat) (cs:Array Value) (f:TypeId) (z:Nat×Nat),y=.slice (some ⟨b,off,none⟩) m c∧(0<m∨e≠0)∧w.heap[b]? =some (.cells cs f z)∧m≤c∧m≤slB e∧
   (∀i,i<m→∀(j:Nat) (k:IntKind),ks[j]? =some k→∃v:Int,cs[off+i*ks.length+j]? =some (.int k v))∧(e=0∨(f=e∧z=(0,0)∧off+c*ks.length≤cs.size))∧len=(m:Int)
def sx(e:TypeId)(y:Value)(b:Nat):Prop:=∃off m c,(0<m∨e≠0)∧y=.slice (some ⟨b,off,none⟩) m c
theorem nw.same{w w':World}{e:TypeId}{ks:List IntKind}{len:Int}{y:Value}(h:nw w e ks len y)(hs:∀b,sx e y b→w'.heap[b]? =w.heap[b]?):nw w' e ks len y:=by
 rcases h with h|⟨b,off,m,c,cs,f,z,h1,h2,h3,h4⟩
 ·exact .inl h
 ·exact .inr ⟨b,off,m,c,cs,f,z,h1,h2,by rw[hs b ⟨off,m,c,h2,h1⟩];exact h3,h4⟩
theorem nw.get{w:World}{e:TypeId}{ks:List IntKind}{len:Int}{y:Value}(h:nw w e ks len y){b:Nat}(hb:sx e y b):∃cs f z,w.heap[b]? =some (.cells cs f z):=by
 obtain⟨off,m,c,h0,hy⟩:=hb
 rcases h with⟨a,c',h,h',_⟩|⟨b',off',m',c',cs,f,z,h1,h2,h3,h4⟩
 ·rw[hy]at h
  injection h with h1 h2 _
  rcases h0 with h0|h0
  ·omega
  ·rcases h' with h'|⟨h',_⟩
   ·exact absurd h' h0
   ·rw[h']at h1;cases h1
 ·rw[hy]at h1
  injection h1 with h1 _ _
  obtain⟨rfl,-⟩:b=b'∧off=off':=by simpa using h1
  exact⟨_,_,_,h3⟩
theorem nw.lt{w:World}{e:TypeId}{ks:List IntKind}{len:Int}{y:Value}(h:nw w e ks len y){b:Nat}(hb:sx e y b):∃o,w.heap[b]? =some o:=by
 obtain⟨cs,f,z,h⟩:=h.get hb
 exact⟨_,h⟩
def am.avo(lo hi:Nat):am→Bool
 |.cells _ l=>SV.avos lo hi l
 |.lst _ ks n le=>n.avo lo hi&&(le.avo lo hi&&ks.all (CK.avo lo hi))
 |.fam _ ks n le=>n.avo lo hi&&(le.avo lo hi&&ks.all (CK.avo lo hi))
 |.any _ _=>true
 |.mp _=>true
 |.mi _=>true
 |.glob _ _ _ _=>true
 |.sls _ _ n le=>n.avo lo hi&&le.avo lo hi
def am.owns(ρ:ap)(id:Nat):am→Nat→Prop
 |.fam _ _ n _,b=>∃i,i<(n.den ρ).toNat∧b=ρ.f id i
 |.lst _ _ _ _,b=>ρ.b id=true∧b=ρ.k id
 |.sls e _ n _,b=>∃i,i<(n.den ρ).toNat∧sx e (ρ.y id i) b
 |_,b=>b=ρ.k id
def lay(e:TypeId)(w:World)(b:Nat)(cs:Array Value):Prop:=w.heap[b]? =some (.cells cs e (0,0))∨(e=0∧∃f z,w.heap[b]? =some (.cells cs f z))
theorem lay.get{e:TypeId}{w:World}{b:Nat}{cs:Array Value}(h:lay e w b cs)(he:Nat.beq e 0=false):w.heap[b]? =some (.cells cs e (0,0)):=by
 rcases h with h|⟨h,_⟩
 ·exact h
 ·subst h;cases he
theorem lay.same{e:TypeId}{w w':World}{b:Nat}{cs:Array Value}(h:lay e w b cs)(hs:w'.heap[b]? =w.heap[b]?):lay e w' b cs:=by
 unfold lay at*;rw[hs];exact h
theorem lay.some{e:TypeId}{w:World}{b:Nat}{cs:Array Value}(h:lay e w b cs):∃o,w.heap[b]? =Option.some o:=by
 rcases h with h|⟨_,f,z,h⟩<;>exact⟨_,h⟩
theorem lay.cell{e:TypeId}{w:World}{b o:Nat}{cs:Array Value}(h:lay e w b cs):w.cell? ⟨b,o,none⟩=cs[o]? :=by
 rcases h with h|⟨_,f,z,h⟩<;>simp only[World.cell?,h,Option.isSome_none,Bool.false_eq_true,if_false]
def am.holds(ρ:ap)(id:Nat)(w:World):am→Prop
 |.cells e l=>w.heap[ρ.k id]? =some (.cells (l.map (SV.den ρ)).toArray e (0,0))
 |.lst e ks n le=>(ρ.b id=false→(n.den ρ).toNat=0∧(ρ.x id=.slice none 0 0∨(e=0∧∃a c,ρ.x id=.slice a 0 c)))∧(ρ.b id=true→∃(cs:Array Value) (c:Nat),ρ.x id=.slice (some ⟨ρ.k id,(ρ.f id 0),none⟩) (n.den ρ).toNat c∧
  lay e w (ρ.k id) cs∧(e=0∨(ρ.f id 0)+c*ks.length≤cs.size)∧(n.den ρ).toNat≤c∧
  ∀i,i<(n.den ρ).toNat→∀(j:Nat) (k:CK),ks[j]? =some k→cs[(ρ.f id 0)+i*ks.length+j]? =some (k.v ρ i (le.den ρ i j)))
 |.fam e ks n le=>(∀i,i<(n.den ρ).toNat→∃cs:Array Value,w.heap[ρ.f id i]? =some (.cells cs e (0,0))∧cs.size=ks.length∧∀(j:Nat) (k:CK),ks[j]? =some k→cs[j]? =some (k.v ρ i (le.den ρ i j)))∧
  ∀i j,i<(n.den ρ).toNat→j<(n.den ρ).toNat→ρ.f id i=ρ.f id j→i=j
 |.any e z=>∃cs:Array Value,w.heap[ρ.k id]? =some (.cells cs e (0,0))∧cs.size=z
 |.glob e g k l=>ρ.k id=g∧∃t f,w.heap[ρ.k id]? =some (.cells (l.map (Value.int k)).toArray t f)
 |.sls e ks n le=>∀i,i<(n.den ρ).toNat→nw w e ks (le.den ρ i 0) (ρ.y id i)
 |.mp none=>∃(es:Array MapEntry) (clk:Nat),w.heap[ρ.k id]? =some (.map es clk)∧∀e,e∈es.toList→(∃a,e.key=.int .i64 a)∧∃b,e.val=.int .i64 b
 |.mp (some l)=>∃(es:Array MapEntry) (clk:Nat),w.heap[ρ.k id]? =some (.map es clk)∧es.toList.map (fun e=>(e.key,e.val))=l.map fun p=>(Value.int .i64 p.1,Value.func (.func p.2) #[] #[])
 |.mi l=>∃(es:Array MapEntry) (clk:Nat),w.heap[ρ.k id]? =some (.map es clk)∧es.toList.map (fun e=>e.key)=l.map (Value.int .i64)∧∀e,e∈es.toList→∃b,e.val=.int .i64 b
theorem am.ce{lo hi:Nat}{ρ σ:ap}(h:b7 lo hi ρ σ){id:Nat}(hid:off lo hi id=true){r:am}(g:r.avo lo hi=true)(b:Nat):r.owns σ id b↔r.owns ρ id b:=by
 cases r<;>simp only[am.owns,h.k _ (aF hid),h.b _ (aF hid)]
 ·rename_i e ks n le
  simp only[am.avo,Bool.and_eq_true]at g
  simp only[IE.ag h n g.1,h.f _ (aF hid)]
 ·rename_i e ks n le
  simp only[am.avo,Bool.and_eq_true]at g
  simp only[IE.ag h n g.1,h.y _ (aF hid)]
theorem am.dp{lo hi:Nat}{ρ σ:ap}(h:b7 lo hi ρ σ){id:Nat}(hid:off lo hi id=true){r:am}(g:r.avo lo hi=true){w:World}(hh:r.holds ρ id w):r.holds σ id w:=by
 cases r with
 |cells e l=>
  simp only[am.avo]at g
  simp only[am.holds,h.k _ (aF hid),←SV.b9,SV.eH h l g]at hh⊢
  exact hh
 |lst e ks n le=>
  simp only[am.avo,Bool.and_eq_true,List.all_eq_true]at g
  simp only[am.holds,h.k _ (aF hid),h.b _ (aF hid),h.x _ (aF hid),h.f _ (aF hid),IE.ag h n g.1,LE.ag h le g.2.1]at hh⊢
  refine⟨hh.1,fun hb=>?_⟩
  obtain⟨cs,c,h1,h2,h3,h4,h5⟩:=hh.2 hb
  exact⟨cs,c,h1,h2,h3,h4,fun i hi j k hk=>by rw[CK.MM h (g.2.2 k (List.mem_of_getElem? hk))];exact h5 i hi j k hk⟩
 |fam e ks n le=>
  simp only[am.avo,Bool.and_eq_true,List.all_eq_true]at g
  simp only[am.holds,IE.ag h n g.1,LE.ag h le g.2.1,h.f _ (aF hid)]at hh⊢
  refine⟨fun i hi=>?_,hh.2⟩
  obtain⟨cs,h1,h2,h3⟩:=hh.1 i hi
  exact⟨cs,h1,h2,fun j k hk=>by rw[CK.MM h (g.2.2 k (List.mem_of_getElem? hk))];exact h3 j k hk⟩
 |any e z=>
  simp only[am.holds,h.k _ (aF hid)]at hh⊢
  exact hh
 |mp l=>
  cases l<;>(simp only[am.holds,h.k _ (aF hid)]at hh⊢;exact hh)
 |mi l=>simp only[am.holds,h.k _ (aF hid)]at hh⊢;exact hh
 |glob e g k l=>
  simp only[am.holds,h.k _ (aF hid)]at hh⊢;exact hh
 |sls e ks n le=>
  simp only[am.avo,Bool.and_eq_true]at g
  simp only[am.holds,IE.ag h n g.1,LE.ag h le g.2,h.y _ (aF hid)]at hh⊢;exact hh
theorem am.gy{ρ:ap}{id:Nat}{r:am}{w w':World}(h:r.holds ρ id w)(hs:∀b,r.owns ρ id b→w'.heap[b]? =w.heap[b]?):r.holds ρ id w':=by
 cases r with
 |cells e l=>simp only[am.holds,am.owns]at*;rw[hs _ rfl];exact h
 |lst e ks n le=>
  simp only[am.holds,am.owns]at*
  refine⟨h.1,fun hb=>?_⟩
  obtain⟨cs,c,h1,h2,h3⟩:=h.2 hb
  exact⟨cs,c,h1,h2.same (hs _ ⟨hb,rfl⟩),h3⟩
 |any e z=>simp only[am.holds,am.owns]at*;rw[hs _ rfl];exact h
 |mp l=>cases l<;>(simp only[am.holds,am.owns]at*;rw[hs _ rfl];exact h)
 |mi l=>simp only[am.holds,am.owns]at*;rw[hs _ rfl];exact h
 |glob e g k l=>simp only[am.holds,am.owns]at*;rw[hs _ rfl];exact h
 |sls e ks n le=>
  simp only[am.holds,am.owns]at*
  exact fun i hi=>(h i hi).same fun b hb=>hs b ⟨i,hi,hb⟩
 |fam e ks n le=>
  simp only[am.holds,am.owns]at*
  refine⟨fun i hi=>?_,h.2⟩
  obtain⟨cs,hc,hz⟩:=h.1 i hi
  exact⟨cs,by rw[hs _ ⟨i,hi,rfl⟩];exact hc,hz⟩
theorem aw{w:World}{b:Nat}{o:Obj}(h:w.heap[b]? =some o):b<w.heap.size:=by
 rcases Nat.lt_or_ge b w.heap.size with h'|h'
 ·exact h'
 ·simp[Array.getElem?_eq_none h']at h
theorem am.BK{ρ:ap}{id:Nat}{r:am}{w:World}(h:r.holds ρ id w){b:Nat}(hb:r.owns ρ id b):b<w.heap.size:=by
 cases r with
 |cells e l=>simp only[am.holds,am.owns]at*;rw[hb];exact aw h
 |lst e ks n le=>simp only[am.holds,am.owns]at*;obtain⟨cs,c,_,h,_⟩:=h.2 hb.1;rw[hb.2];obtain⟨o,h⟩:=h.some;exact aw h
 |any e z=>simp only[am.holds,am.owns]at*;obtain⟨cs,h,_⟩:=h;rw[hb];exact aw h
 |mp l=>cases l<;>(simp only[am.holds,am.owns]at*;obtain⟨es,clk,h,_⟩:=h;rw[hb];exact aw h)
 |mi l=>simp only[am.holds,am.owns]at*;obtain⟨es,clk,h,_⟩:=h;rw[hb];exact aw h
 |glob e g k l=>simp only[am.holds,am.owns]at*;obtain⟨_,t,f,h⟩:=h;rw[hb];exact aw h
 |sls e ks n le=>
  simp only[am.holds,am.owns]at*
  obtain⟨i,hi,hb⟩:=hb
  obtain⟨o,h⟩:=(h i hi).lt hb
  exact aw h
 |fam e ks n le=>
  simp only[am.holds,am.owns]at*
  obtain⟨i,hi,rfl⟩:=hb
  obtain⟨cs,hc,_⟩:=h.1 i hi
  exact aw hc
inductive aO where
 |r (t:Nat)
 |h (id:Nat)
def aO.eq:aO→aO→Bool
 |.r a,.r b=>Nat.beq a b
 |.h a,.h b=>Nat.beq a b
 |_,_=>false
theorem aO.dJ{a b:aO}:a.eq b=true↔a=b:=by
 cases a<;>cases b<;>simp[aO.eq,Nat.beq_eq]
instance:DecidableEq aO:=fun a b=>decidable_of_iff _ aO.dJ
inductive aY where
 |reg (c:BE) (s:SV)
 |row (own:Bool) (r:am)
 |gone
def aY.avo(lo hi:Nat):aY→Bool
 |.reg c s=>c.avo lo hi&&s.avo lo hi
 |.row _ r=>r.avo lo hi
 |.gone=>true
def aO.avo(lo hi:Nat):aO→Bool
 |.r _=>true
 |.h id=>off lo hi id
abbrev af:=List (aO×aY)
def ai(k:aO):af→Option aY
 |[]=>none
 |(j,e)::r=>bif j.eq k then some e else ai k r
theorem ak(k j:aO)(e:aY)(L:af):ai k ((j,e)::L)=if j=k then some e else ai k L:=by
 simp only[ai]
 by_cases h:j=k
 ·rw[if_pos h,aO.dJ.2 h];rfl
 ·rw[if_neg h]
  have:j.eq k=false:=by
   cases hh:j.eq k with
   |false=>rfl
   |true=>exact absurd (aO.dJ.1 hh) h
  rw[this];rfl
theorem bT(k:aO)(e:aY)(L:af):ai k ((k,e)::L)=some e:=by rw[ak,if_pos rfl]
theorem sy{k j:aO}(h:j≠k)(e:aY)(L:af):ai k ((j,e)::L)=ai k L:=by rw[ak,if_neg h]
structure bp where
 w0:World
 keep:Nat→Prop
 sh:Nat→Prop
structure Fr (C:bp) (w:World):Prop where
 os:w.os=C.w0.os
 tape:w.tape=C.w0.tape
 output:w.output=C.w0.output
 size:C.w0.heap.size≤w.heap.size
 keep:∀b,C.keep b→b<C.w0.heap.size∧w.heap[b]? =C.w0.heap[b]?
 shk:∀b,C.sh b→C.keep b
structure HD (C:bp) (ρ:ap) (L:af) (w:World):Prop where
 rows:∀id o r,ai (.h id) L=some (.row o r)→r.holds ρ id w
 own:∀id r,ai (.h id) L=some (.row true r)→∀b,r.owns ρ id b→¬C.keep b
 ro:∀id r,ai (.h id) L=some (.row false r)→∀b,r.owns ρ id b→C.sh b∨¬C.keep b
 dis:∀i j r s,ai (.h i) L=some (.row false r)→ai (.h j) L=some (.row true s)→∀b,r.owns ρ i b→¬s.owns ρ j b
 sep:∀i j r s,i≠j→ai (.h i) L=some (.row true r)→ai (.h j) L=some (.row true s)→∀b,r.owns ρ i b→¬s.owns ρ j b
 fr:Fr C w
class Fm where
 ds:List Deferred
 ro:Option Nat
instance (priority:=low) fm0:Fm:=⟨[],none⟩
variable [Fm]
structure RD (nt:Nat) (ρ:ap) (L:af) (a:Act):Prop where
 defers:a.defers=Fm.ds
 size:a.tmps.size=nt
 regs:∀t c s,ai (.r t) L=some (.reg c s)→a.tmps[t]? =some (if c.den ρ then s.den ρ else undef)
def af.avo(lo hi:Nat):af→Bool
 |[]=>true
 |(k,e)::r=>(k.avo lo hi&&e.avo lo hi)&&af.avo lo hi r
theorem af.al{lo hi:Nat}{k:aO}{e:aY}:∀{L:af},af.avo lo hi L=true→ai k L=some e→k.avo lo hi=true∧e.avo lo hi=true
 |[],_,h=>by simp[ai]at h
 |(j,f)::r,g,h=>by
  simp only[af.avo,Bool.and_eq_true]at g
  rw[ak]at h
  by_cases hj:j=k
  ·rw[if_pos hj]at h;obtain rfl:=Option.some.inj h;subst hj;exact g.1
  ·rw[if_neg hj]at h;exact af.al g.2 h
theorem RD.agr{nt lo hi:Nat}{ρ σ:ap}{L:af}{a:Act}(h:RD nt ρ L a)(g:b7 lo hi ρ σ)(hL:af.avo lo hi L=true):RD nt σ L a:=by
 refine⟨h.defers,h.size,fun t c s hl=>?_⟩
 have hk:=af.al hL hl
 simp only[aY.avo,Bool.and_eq_true]at hk
 rw[h.regs t c s hl,BE.ag g c hk.2.1,SV.ag g s hk.2.2]
theorem HD.agr{C:bp}{lo hi:Nat}{ρ σ:ap}{L:af}{w:World}(h:HD C ρ L w)(g:b7 lo hi ρ σ)(hL:af.avo lo hi L=true):HD C σ L w:=by
 have hk:∀{id o r},ai (.h id) L=some (.row o r)→off lo hi id=true∧r.avo lo hi=true:=fun hl=>af.al hL hl
 refine⟨fun id o r hl=>am.dp g (hk hl).1 (hk hl).2 (h.rows id o r hl),fun id r hl b hb=>?_,fun id r hl b hb=>?_,fun i j r s hi hj b hb hc=>?_,fun i j r s hij hi hj b hb hc=>?_,h.fr⟩
 ·exact h.own id r hl b ((am.ce g (hk hl).1 (hk hl).2 b).1 hb)
 ·exact h.ro id r hl b ((am.ce g (hk hl).1 (hk hl).2 b).1 hb)
 ·exact h.dis i j r s hi hj b ((am.ce g (hk hi).1 (hk hi).2 b).1 hb) ((am.ce g (hk hj).1 (hk hj).2 b).1 hc)
 ·exact h.sep i j r s hij hi hj b ((am.ce g (hk hi).1 (hk hi).2 b).1 hb) ((am.ce g (hk hj).1 (hk hj).2 b).1 hc)
theorem HD.step{C:bp}{ρ:ap}{L:af}{w w':World}(H:HD C ρ L w){id:Nat}{o:Bool}{r:am}
 (hos:w'.os=w.os) (ht:w'.tape=w.tape) (hout:w'.output=w.output) (hsz:w.heap.size≤w'.heap.size)
 (hkeep:∀b,C.keep b→w'.heap[b]? =w.heap[b]?)
 (hoth:∀i p s,i≠id→ai (.h i) L=some (.row p s)→∀b,s.owns ρ i b→w'.heap[b]? =w.heap[b]?)
 (hh:r.holds ρ id w') (hown:o=true→∀b,r.owns ρ id b→¬C.keep b) (hro:o=false→∀b,r.owns ρ id b→C.sh b∨¬C.keep b)
 (hdis:∀i p s,i≠id→ai (.h i) L=some (.row p s)→(o=true∨p=true)→∀b,r.owns ρ id b→¬s.owns ρ i b):
 HD C ρ ((.h id,.row o r)::L) w':=by
 have cs:∀i p s,ai (.h i) ((.h id,.row o r)::L)=some (.row p s)→(i=id∧p=o∧s=r)∨(i≠id∧ai (.h i) L=some (.row p s)):=by
  intro i p s h
  rw[ak]at h
  by_cases he:aO.h id=aO.h i
  ·rw[if_pos he]at h
   obtain⟨rfl,rfl⟩:=aY.row.inj (Option.some.inj h)
   exact .inl ⟨(aO.h.inj he).symm,rfl,rfl⟩
  ·rw[if_neg he]at h
   exact .inr ⟨fun e=>he (by rw[e]),h⟩
 refine⟨fun i p s h=>?_,fun i s h b hb=>?_,fun i s h b hb=>?_,fun i j s t hi hj b hb hc=>?_,fun i j s t hij hi hj b hb hc=>?_,
  ⟨hos.trans H.fr.os,ht.trans H.fr.tape,hout.trans H.fr.output,Nat.le_trans H.fr.size hsz,fun b hb=>⟨(H.fr.keep b hb).1,(hkeep b hb).trans (H.fr.keep b hb).2⟩,H.fr.shk⟩⟩
 ·rcases cs i p s h with⟨rfl,rfl,rfl⟩|⟨hne,h⟩
  ·exact hh
  ·exact am.gy (H.rows i p s h) fun b hb=>hoth i p s hne h b hb
 ·rcases cs i true s h with⟨rfl,ho,rfl⟩|⟨hne,h⟩
  ·exact hown ho.symm b hb
  ·exact H.own i s h b hb
 ·rcases cs i false s h with⟨rfl,ho,rfl⟩|⟨hne,h⟩
  ·exact hro ho.symm b hb
  ·exact H.ro i s h b hb
 ·rcases cs i false s hi with⟨rfl,ho,rfl⟩|⟨hne,hi'⟩
  ·rcases cs j true t hj with⟨rfl,ho2,rfl⟩|⟨hne2,hj'⟩
   ·rw[←ho]at ho2;cases ho2
   ·exact hdis j true t hne2 hj' (.inr rfl) b hb hc
  ·rcases cs j true t hj with⟨rfl,ho2,rfl⟩|⟨hne2,hj'⟩
   ·exact hdis i false s hne hi' (.inl ho2.symm) b hc hb
   ·exact H.dis i j s t hi' hj' b hb hc
 ·rcases cs i true s hi with⟨rfl,ho,rfl⟩|⟨hne,hi'⟩
  ·rcases cs j true t hj with⟨rfl,_,_⟩|⟨hne2,hj'⟩
   ·exact hij rfl
   ·exact hdis j true t hne2 hj' (.inr rfl) b hb hc
  ·rcases cs j true t hj with⟨rfl,ho2,rfl⟩|⟨hne2,hj'⟩
   ·exact hdis i true s hne hi' (.inr rfl) b hc hb
   ·exact H.sep i j s t hij hi' hj' b hb hc
theorem HD.lt{C:bp}{ρ:ap}{L:af}{w:World}(H:HD C ρ L w){id:Nat}{o:Bool}{r:am}(h:ai (.h id) L=some (.row o r)){b:Nat}(hb:r.owns ρ id b):b<w.heap.size:=am.BK (H.rows id o r h) hb
theorem HD.keep_lt{C:bp}{ρ:ap}{L:af}{w:World}(H:HD C ρ L w){b:Nat}(hb:C.keep b):b<w.heap.size:=Nat.lt_of_lt_of_le (H.fr.keep b hb).1 H.fr.size
theorem HD.apart{C:bp}{ρ:ap}{L:af}{w:World}(H:HD C ρ L w){i j:Nat}{o p:Bool}{r s:am}(hij:i≠j)(hi:ai (.h i) L=some (.row o r))(hj:ai (.h j) L=some (.row p s))(h:o=true∨p=true){b:Nat}(hb:r.owns ρ i b):¬s.owns ρ j b:=by
 cases o
 ·cases p
  ·rcases h with h|h<;>cases h
  ·exact H.dis i j r s hi hj b hb
 ·cases p
  ·exact fun hc=>H.dis j i s r hj hi b hc hb
  ·exact H.sep i j r s hij hi hj b hb
theorem af.cH{lo hi:Nat}:∀{l m:af},af.avo lo hi l=true→af.avo lo hi m=true→af.avo lo hi (l++m)=true
 |[],m,_,g=>g
 |(k,e)::r,m,h,g=>by
  simp only[af.avo,Bool.and_eq_true]at h
  simp only[List.cons_append,af.avo,Bool.and_eq_true]
  exact⟨h.1,af.cH h.2 g⟩
theorem HD.sub{C:bp}{ρ:ap}{L M:af}{w:World}(h:HD C ρ L w)(hs:∀id o r,ai (.h id) M=some (.row o r)→ai (.h id) L=some (.row o r)):HD C ρ M w:=
 ⟨fun id o r hl=>h.rows id o r (hs _ _ _ hl),fun id r hl=>h.own id r (hs _ _ _ hl),fun id r hl=>h.ro id r (hs _ _ _ hl),fun i j r s hi hj=>h.dis i j r s (hs _ _ _ hi) (hs _ _ _ hj),fun i j r s hij hi hj=>h.sep i j r s hij (hs _ _ _ hi) (hs _ _ _ hj),h.fr⟩
end
section
def BL:List Int→List (Nat→Nat→Int)→Prop:=fun is ls=>match is,ls with
 |[i,o,m],[a,b]=>∀r j:Nat,((r:Int)≠i∨(j:Int)<o∨o+m≤(j:Int))→a r j=b r j
 |_,_=>False
class cg where
 rel:Nat→List Int→List (Nat→Nat→Int)→Prop
 exc:Nat
 exc_ok:∀is ls,BL is ls→rel exc is ls
variable [cg] [Fm]
def uG:List Int→List (Nat→Nat→Int)→Prop:=fun _ ls=>match ls with
 |[a,b]=>a=b
 |_=>False
def adx:List Int→List (Nat→Nat→Int)→Prop:=fun is ls=>match is,ls with
 |[m],[a,b,c]=>∀i j,c i j=if i<m.toNat then a i j else b (i-m.toNat) j
 |_,_=>False
def aa2:List Int→List (Nat→Nat→Int)→Prop:=fun is ls=>match is,ls with
 |[m],[a,b]=>∀i j,b i j=a (i+m.toNat) j
 |_,_=>False
def bF(r:Nat):List Int→List (Nat→Nat→Int)→Prop:=
 match r with
 |0=>uG
 |1=>adx
 |2=>aa2
 |r+3=>cg.rel r
inductive F where
 |be (b:BE)
 |rel (r:Nat) (is:List IE) (ls:List LE)
 |imp (c:BE) (f:F)
def F.holds(ρ:ap):F→Prop
 |.be b=>b.den ρ=true
 |.rel r is ls=>bF r (is.map (IE.den ρ)) (ls.map (LE.den ρ))
 |.imp c f=>c.den ρ=true→f.holds ρ
def F.avo(lo hi:Nat):F→Bool
 |.be b=>b.avo lo hi
 |.rel _ is ls=>is.all (IE.avo lo hi)&&ls.all (LE.avo lo hi)
 |.imp c f=>c.avo lo hi&&f.avo lo hi
theorem F.dp{lo hi:Nat}{ρ σ:ap}(h:b7 lo hi ρ σ):∀f:F,f.avo lo hi=true→(f.holds σ↔f.holds ρ)
 |.be b,g=>by simp only[F.avo]at g;simp only[F.holds,BE.ag h b g]
 |.rel r is ls,g=>by
  simp only[F.avo,Bool.and_eq_true,List.all_eq_true]at g
  have e1:is.map (IE.den σ)=is.map (IE.den ρ):=List.map_congr_left fun x hx=>IE.ag h x (g.1 x hx)
  have e2:ls.map (LE.den σ)=ls.map (LE.den ρ):=List.map_congr_left fun x hx=>LE.ag h x (g.2 x hx)
  simp only[F.holds,e1,e2]
 |.imp c f,g=>by simp only[F.avo,Bool.and_eq_true]at g;simp only[F.holds,BE.ag h c g.1,F.dp h f g.2]
def ar(ρ:ap)(l:List F):Prop:=∀f,f∈l→f.holds ρ
theorem aj(ρ:ap):ar ρ []:=fun f h=>by cases h
theorem aa{ρ:ap}{f:F}{l:List F}:ar ρ (f::l)↔f.holds ρ∧ar ρ l:=by
 constructor
 ·exact fun h=>⟨h f (.head _),fun g hg=>h g (.tail _ hg)⟩
 ·rintro⟨h1,h2⟩ g hg
  cases hg with
  |head=>exact h1
  |tail _ hg=>exact h2 g hg
theorem aA{ρ:ap}{l m:List F}:ar ρ (l++m)↔ar ρ l∧ar ρ m:=by
 constructor
 ·exact fun h=>⟨fun f hf=>h f (List.mem_append.2 (.inl hf)),fun f hf=>h f (List.mem_append.2 (.inr hf))⟩
 ·exact fun h f hf=>(List.mem_append.1 hf).elim (h.1 f) (h.2 f)
def F.avos(lo hi:Nat)(l:List F):Bool:=l.all (F.avo lo hi)
theorem aZ{lo hi:Nat}{ρ σ:ap}(h:b7 lo hi ρ σ){l:List F}(g:F.avos lo hi l=true):ar σ l↔ar ρ l:=by
 simp only[F.avos,List.all_eq_true]at g
 exact⟨fun k f hf=>(F.dp h f (g f hf)).1 (k f hf),fun k f hf=>(F.dp h f (g f hf)).2 (k f hf)⟩
def cK:IE→IE→IE
 |.lit a,.lit b=> .lit (a+b)
 |a,b=> .add a b
theorem bU(ρ:ap)(a b:IE):(cK a b).den ρ=a.den ρ+b.den ρ:=by unfold cK;split<;>rfl
def qG:IE→IE→IE
 |.lit a,.lit b=> .lit (a-b)
 |a,b=> .sub a b
theorem lA(ρ:ap)(a b:IE):(qG a b).den ρ=a.den ρ-b.den ρ:=by unfold qG;split<;>rfl
def MN:IE→IE→IE
 |.lit a,.lit b=> .lit (a*b)
 |a,b=> .mul a b
theorem uH(ρ:ap)(a b:IE):(MN a b).den ρ=a.den ρ*b.den ρ:=by unfold MN;split<;>rfl
def MO:IE→IE→IE
 |.lit a,.lit b=> .lit (a.tdiv b)
 |a,b=> .quo a b
theorem uI(ρ:ap)(a b:IE):(MO a b).den ρ=(a.den ρ).tdiv (b.den ρ):=by unfold MO;split<;>rfl
def MP:IE→IE→IE
 |.lit a,.lit b=> .lit (a.tmod b)
 |a,b=> .rem a b
theorem uJ(ρ:ap)(a b:IE):(MP a b).den ρ=(a.den ρ).tmod (b.den ρ):=by unfold MP;split<;>rfl
def a5w:IE→IE→IE
 |.lit a,.lit b=> .lit (mxI a b)
 |a,b=> .mx a b
theorem BM(ρ:ap)(a b:IE):(a5w a b).den ρ=(IE.mx a b).den ρ:=by unfold a5w;split<;>rfl
def a5x:IE→IE→IE
 |.lit a,.lit b=> .lit (mnI a b)
 |a,b=> .mn a b
theorem BN(ρ:ap)(a b:IE):(a5x a b).den ρ=(IE.mn a b).den ρ:=by unfold a5x;split<;>rfl
def jC(k:IntKind):IE→IE
 |.lit a=> .lit (k.wrap a)
 |a=> .wrap k a
theorem gz(ρ:ap)(k:IntKind)(a:IE):(jC k a).den ρ=k.wrap (a.den ρ):=by unfold jC;split<;>rfl
def bf:IE→IE
 |.lit (.ofNat n)=> .lit (.ofNat n)
 |.nat a=> .nat a
 |a=> .nat a
theorem aP(ρ:ap)(a:IE):(bf a).den ρ=((a.den ρ).toNat:Int):=by unfold bf;split<;>simp[IE.den]
def eI(op:BinOp):IE→IE→BE
 |.lit a,.lit b=> .lit (bv op a b)
 |a,b=> .cmp op a b
theorem dq(ρ:ap)(op:BinOp)(a b:IE):(eI op a b).den ρ=bv op (a.den ρ) (b.den ρ):=by unfold eI;split<;>rfl
def sA:BE→BE→BE
 |.lit a,.lit b=> .lit (a==b)
 |a,b=> .eqb a b
theorem lB(ρ:ap)(a b:BE):(sA a b).den ρ=(a.den ρ==b.den ρ):=by unfold sA;split<;>rfl
def dj:BE→BE
 |.lit b=> .lit (!b)
 |.not a=>a
 |a=> .not a
theorem cJ(ρ:ap)(a:BE):(dj a).den ρ=!(a.den ρ):=by unfold dj;split<;>simp[BE.den]
def nU:BE→BE→BE
 |.lit true,b=>b
 |.lit false,_=> .lit false
 |a,.lit true=>a
 |a,b=> .ite a b (.lit false)
theorem pW(ρ:ap)(a b:BE):(nU a b).den ρ=(a.den ρ&&b.den ρ):=by
 unfold nU;split<;>simp[BE.den]
def kS:BE→BE→BE→BE
 |.lit true,a,_=>a
 |.lit false,_,b=>b
 |c,a,b=>bif a.eq b then a else .ite c a b
theorem jD(ρ:ap)(c a b:BE):(kS c a b).den ρ=if c.den ρ then a.den ρ else b.den ρ:=by
 unfold kS
 split
 ·simp[BE.den]
 ·simp[BE.den]
 ·cases h:a.eq b
  ·rfl
  ·have:=BE.b8 a b h;subst this;simp
def iR:BE→IE→IE→IE
 |.lit true,a,_=>a
 |.lit false,_,b=>b
 |c,a,b=>bif a.eq b then a else .ite c a b
theorem fg(ρ:ap)(c:BE)(a b:IE):(iR c a b).den ρ=if c.den ρ then a.den ρ else b.den ρ:=by
 unfold iR
 split
 ·simp[BE.den]
 ·simp[BE.den]
 ·cases h:a.eq b
  ·rfl
  ·have:=IE.b8 a b h;subst this;simp
def GX:BE→LE→LE→LE
 |.lit true,a,_=>a
 |.lit false,_,b=>b
 |c,a,b=>bif a.eq b then a else .ite c a b
theorem GY(ρ:ap)(c:BE)(a b:LE):(GX c a b).den ρ=if c.den ρ then a.den ρ else b.den ρ:=by
 unfold GX
 split
 ·simp[BE.den]
 ·simp[BE.den]
 ·cases h:a.eq b
  ·rfl
  ·have:=LE.b8 a b h;subst this;simp
def Ws:IE→IE→Bool
 |.lit a,.lit b=>!(Nat.beq a.toNat b.toNat)
 |_,_=>false
def gA:LE→IE→Nat→IE
 |.upd l j d e,i,c=>bif Nat.beq d c then(bif i.eq j then e else bif Ws i j then gA l i c else .get (.upd l j d e) i c)else gA l i c
 |l,i,c=> .get l i c
theorem iX(ρ:ap)(i:IE)(c:Nat):∀l:LE,(gA l i c).den ρ=l.den ρ (i.den ρ).toNat c
 |.var v=>rfl
 |.ite x a b=>rfl
 |.upd l j d e=>by
  simp only[gA,LE.den,ah]
  cases h1:Nat.beq d c
  ·have hn:¬c=d:=fun e=>by rw[e,Nat.beq_refl]at h1;cases h1
   simp only[cond_false,iX ρ i c l,hn,and_false,if_false]
  ·have hc:=Nat.eq_of_beq_eq_true h1
   subst hc
   cases h2:i.eq j
   ·simp only[cond_true,cond_false,and_true]
    cases h3:Ws i j
    ·simp only[cond_false,IE.den,LE.den,ah,and_true]
    ·have hne:¬(i.den ρ).toNat=(j.den ρ).toNat:=by
      cases i<;>cases j<;>simp only[Ws,Bool.false_eq_true]at h3
      rename_i m n
      intro e
      simp only[IE.den]at e
      rw[e,Nat.beq_refl]at h3
      cases h3
     simp only[cond_true,iX ρ i d l,hne,if_false]
   ·have hij:=IE.b8 i j h2
    subst hij
    simp only[cond_true,and_self,if_true]
def kT:Value→SV
 |.bool b=> .b (.lit b)
 |.int k n=> .int k (.lit n)
 |.pointer none=> .nilp
 |.slice none 0 0=> .nils
 |.nilFunc=> .nilf
 |v=> .con v
theorem sB(ρ:ap)(v:Value):(kT v).den ρ=v:=by unfold kT;split<;>rfl
def ofValue:Value→SV
 |.agg cs=> .agg (cs.toList.map kT)
 |v=>kT v
theorem qH(ρ:ap)(l:List Value):SV.dens ρ (l.map kT)=l:=by
 induction l with
 |nil=>rfl
 |cons v r ih=>simp only[List.map_cons,SV.dens,sB,ih]
theorem gP(ρ:ap)(v:Value):(ofValue v).den ρ=v:=by
 unfold ofValue;split
 ·simp only[SV.den,qH,Array.toArray_toList]
 ·exact sB ρ _
def pX:BE→BE→Bool
 |.ite a b e,d=>(d.eq (.ite a b e))||((e.eq (.lit false))&&(pX a d||pX b d))
 |c,d=>d.eq c
theorem iY(ρ:ap)(d:BE):∀c:BE,pX c d=true→c.den ρ=true→d.den ρ=true
 |.ite a b e,h,g=>by
  simp only[pX,Bool.or_eq_true,Bool.and_eq_true]at h
  rcases h with h|⟨he,h⟩
  ·rw[BE.b8 _ _ h];exact g
  ·have:=BE.b8 _ _ he;subst this
   simp only[BE.den]at g
   cases ha:a.den ρ
   ·rw[ha]at g;cases g
   ·rw[ha]at g
    rcases h with h|h
    ·exact iY ρ d a h ha
    ·exact iY ρ d b h g
 |.lit _,h,g=>by simp only[pX]at h;rw[BE.b8 _ _ h];exact g
 |.var _,h,g=>by simp only[pX]at h;rw[BE.b8 _ _ h];exact g
 |.not _,h,g=>by simp only[pX]at h;rw[BE.b8 _ _ h];exact g
 |.cmp _ _ _,h,g=>by simp only[pX]at h;rw[BE.b8 _ _ h];exact g
 |.eqb _ _,h,g=>by simp only[pX]at h;rw[BE.b8 _ _ h];exact g
def Wt(c d:BE):Bool:=
 match d with
 |.lit true=>true
 |.ite a b (.lit false)=>pX c d||(pX c a&&pX c b)
 |_=>pX c d
theorem Wu{ρ:ap}{c d:BE}(h:Wt c d=true)(g:c.den ρ=true):d.den ρ=true:=by
 unfold Wt at h
 split at h
 ·rfl
 ·simp only[Bool.or_eq_true,Bool.and_eq_true]at h
  rcases h with h|⟨h1,h2⟩
  ·exact iY ρ _ c h g
  ·simp only[BE.den,iY ρ _ c h1 g,iY ρ _ c h2 g,if_true]
 ·exact iY ρ _ c h g
def ep(L:af)(c:BE):Operand→Option SV
 |.tmp t=>
  match ai (.r t) L with
  |some (.reg d s)=>bif Wt c d then some s else none
  |_=>none
 |.const v=>some (ofValue v)
 |.func f=>some (.fn (.func f) [] [])
 |.global _=>none
theorem az{nt:Nat}{ρ:ap}{L:af}{a:Act}(h:RD nt ρ L a){c:BE}(hc:c.den ρ=true){x:Operand}{s:SV}(hs:ep L c x=some s):a.eval x=s.den ρ:=by
 cases x with
 |tmp t=>
  simp only[ep]at hs
  split at hs
  ·rename_i d s' hl
   cases hi:Wt c d
   ·rw[hi]at hs;cases hs
   ·rw[hi]at hs
    obtain rfl:=Option.some.inj hs
    have:=h.regs t d s' hl
    rw[Wu hi hc,if_pos rfl]at this
    simp only[Act.eval,Array.getD_eq_getD_getElem?,this,Option.getD_some]
  ·cases hs
 |const v=>simp only[ep]at hs;obtain rfl:=Option.some.inj hs;simp only[Act.eval,gP]
 |func f=>simp only[ep]at hs;obtain rfl:=Option.some.inj hs;rfl
 |global g=>cases hs
def pY(L:af)(c:BE):List Operand→Option (List SV)
 |[]=>some []
 |x::r=>match ep L c x,pY L c r with
  |some s,some l=>some (s::l)
  |_,_=>none
theorem dk{nt:Nat}{ρ:ap}{L:af}{a:Act}(h:RD nt ρ L a){c:BE}(hc:c.den ρ=true):∀{xs:List Operand} {l:List SV},pY L c xs=some l→xs.map a.eval=l.map (SV.den ρ)
 |[],l,hs=>by simp only[pY]at hs;obtain rfl:=Option.some.inj hs;rfl
 |x::r,l,hs=>by
  simp only[pY]at hs
  split at hs
  ·rename_i s l' h1 h2
   obtain rfl:=Option.some.inj hs
   simp only[List.map_cons,az h hc h1,dk h hc h2]
  ·cases hs
end
section
variable [cg] [Fm]
def ab3(k:CK)(i:IE)(e:IE):SV:=
 match k with
 |.int k=> .int k e
 |.bool=> .b (eI .neq e (.lit 0))
 |.ptr fa=> .ptr (.fm fa i 0)
 |.val fa=> .yv fa i
 |.byte=> .int .u8 (.wrap .u8 e)
theorem Wv(ρ:ap)(k:CK)(i e:IE):(ab3 k i e).den ρ=k.v ρ (i.den ρ).toNat (e.den ρ):=by
 cases k<;>simp only[ab3,SV.den,CK.v,dq,bv,IE.den,PT.addr]
def iZ(ks:List CK)(le:LE)(i:IE)(c:Nat):Nat→Option (List SV)
 |0=>some []
 |n+1=>match ks[c]?,iZ ks le i (c+1) n with
  |some k,some r=>some (ab3 k i (gA le i c)::r)
  |_,_=>none
theorem jE{ρ:ap}{ks:List CK}{le:LE}{i:IE}:∀{n c:Nat} {l:List SV},iZ ks le i c n=some l→
 l.length=n∧∀j,j<n→∃k s,ks[c+j]? =some k∧l[j]? =some s∧s.den ρ=k.v ρ (i.den ρ).toNat (le.den ρ (i.den ρ).toNat (c+j))
 |0,c,l,h=>by simp only[iZ]at h;obtain rfl:=Option.some.inj h;exact⟨rfl,fun j hj=>absurd hj (by omega)⟩
 |n+1,c,l,h=>by
  simp only[iZ]at h
  split at h
  ·rename_i k r h1 h2
   obtain rfl:=Option.some.inj h
   obtain⟨hl,hr⟩:=jE (ρ:=ρ) h2
   refine⟨by simp[hl],fun j hj=>?_⟩
   cases j with
   |zero=>exact⟨k,_,h1,rfl,by simp only[Wv,iX,Nat.add_zero]⟩
   |succ j=>
    obtain⟨k',s,a,b,d⟩:=hr j (by omega)
    exact⟨k',s,by rw[show c+(j+1)=c+1+j by omega];exact a,by simpa using b,by rw[show c+(j+1)=c+1+j by omega];exact d⟩
  ·cases h
def GZ(z:Nat):Nat→List SV→List SV
 |0,_=>[]
 |f+1,l=>match l with
  |[]=>[]
  |s::_=>s::GZ z f (l.drop z)
theorem BO(z:Nat):∀(f:Nat) (l:List SV) (j:Nat) (s:SV),(GZ z f l)[j]? =some s→l[j*z]? =some s
 |0,l,j,s,h=>by simp[GZ]at h
 |f+1,[],j,s,h=>by simp[GZ]at h
 |f+1,t::l,j,s,h=>by
  cases j with
  |zero=>simpa [GZ] using h
  |succ j=>
   simp only[GZ,List.getElem?_cons_succ]at h
   have:=BO z f _ j s h
   rw[List.getElem?_drop]at this
   rw[show(j+1)*z=z+j*z by rw[Nat.succ_mul];omega]
   exact this
def H3(k:IntKind)(i:IE):Nat→List SV→Option IE
 |_,[]=>none
 |_,[.int k' e]=>bif gw k k' then some e else none
 |j,.int k' e::r=>bif gw k k' then(match H3 k i (j+1) r with
  |some x=>some (iR (eI .eql i (.lit j)) e x)
  |none=>none)else none
 |_,_=>none
theorem BP{ρ:ap}{k:IntKind}{i:IE}:∀{l:List SV} {j:Nat} {e:IE},H3 k i j l=some e→∀m:Nat,m<l.length→i.den ρ=(j+m:Nat)→∃s,l[m]? =some s∧s.den ρ=.int k (e.den ρ)
 |[],j,e,h,m,hm,_=>by simp at hm
 |s::r,j,e,h,m,hm,hi=>by
  cases s with
  |int k' e'=>
   cases hk:gw k k'
   ·cases r<;>simp only[H3,hk,cond_false]at h<;>cases h
   ·have:=bY hk;subst this
    cases r with
    |nil=>
     simp only[H3,hk,cond_true]at h
     obtain rfl:=Option.some.inj h
     have:m=0:=by simp at hm;omega
     subst this
     exact⟨_,rfl,rfl⟩
    |cons t r=>
     simp only[H3,hk,cond_true]at h
     split at h
     ·rename_i x hx
      obtain rfl:=Option.some.inj h
      cases m with
      |zero=>
       refine⟨_,rfl,?_⟩
       simp only[SV.den,fg,dq,bv,IE.den,hi,Nat.add_zero,beq_self_eq_true,if_true]
      |succ m=>
       obtain⟨s,a,b⟩:=BP (ρ:=ρ) hx m (by simp at hm⊢;omega) (by rw[hi];congr 1;omega)
       refine⟨s,by simpa using a,?_⟩
       rw[b]
       simp only[fg,dq,bv,IE.den,hi]
       rw[if_neg]
       simp only[beq_iff_eq]
       omega
     ·cases h
  |_=>cases r<;>simp only[H3]at h<;>cases h
def rd(L:af)(p:PT)(n:Nat):Option (List F×List SV):=
 match p with
 |.at id o=>
  match ai (.h id) L with
  |some (.row _ (.cells _ l))=>
   let r:=(l.drop o).take n
   bif Nat.beq r.length n then some ([],r)else none
  |_=>none
 |.ax id o i z=>
  match ai (.h id) L with
  |some (.row _ (.cells _ l))=>
   match GZ z l.length (l.drop o)with
   |.int k e::r=>
    bif Nat.beq n 1 then
     match H3 k (bf i) 0 (.int k e::r)with
     |some x=>some ([.be (.cmp .lss (bf i) (.lit (r.length+1:Nat)))],[.int k x])
     |none=>none
    else none
   |_=>none
  |_=>none
 |.fm fa i o=>
  match ai (.h fa) L with
  |some (.row _ (.fam _ ks m le))=>
   match iZ ks le i o n with
   |some r=>some ([.be (.cmp .lss (bf i) (bf m))],r)
   |none=>none
  |_=>none
 |.el id i z o=>
  match ai (.h id) L with
  |some (.row _ (.lst _ ks m le))=>
   bif Nat.beq z ks.length then
    match iZ ks le i o n with
    |some r=>some ([.be (.cmp .lss (bf i) (bf m))],r)
    |none=>none
   else none
  |_=>none
 |.fx _ _ _ _ _=>none
theorem de{w:World}{b o:Nat}{cs:Array Value}{e:TypeId}{f:Nat×Nat}(h:w.heap[b]? =some (.cells cs e f)):w.cell? ⟨b,o,none⟩=cs[o]? :=by
 simp only[World.cell?,h,Option.isSome_none,Bool.false_eq_true,if_false]
theorem ba(b o j:Nat):(⟨b,o,none⟩:Addr).add j=⟨b,o+j,none⟩:=by
 unfold Addr.add;split<;>simp_all
theorem cL{ρ:ap}{a b:IE}(h:(F.be (.cmp .lss a b)).holds ρ):a.den ρ<b.den ρ:=by
 simpa [F.holds,BE.den,bv] using h
theorem kU{C:bp}{ρ:ap}{L:af}{w:World}(H:HD C ρ L w){p:PT}{n:Nat}{v:List F}{l:List SV}(h:rd L p n=some (v,l))(hv:ar ρ v):
 l.length=n∧∀j s,l[j]? =some s→w.cell? ((p.addr ρ).add j)=some (s.den ρ):=by
 cases p with
 |«at» id o=>
  simp only[rd]at h
  split at h
  ·rename_i ow e l0 hl
   cases hb:Nat.beq ((l0.drop o).take n).length n
   ·simp only[hb,cond_false]at h;cases h
   ·simp only[hb,cond_true]at h
    obtain⟨rfl,rfl⟩:=Prod.mk.inj (Option.some.inj h)
    refine⟨Nat.eq_of_beq_eq_true hb,fun j s hs=>?_⟩
    have hh:=H.rows id ow _ hl
    simp only[am.holds]at hh
    rw[PT.addr,ba,de hh]
    have hjn:j<n:=by
     have:=List.getElem?_eq_some_iff.1 hs
     obtain⟨hlt,_⟩:=this
     rw[Nat.eq_of_beq_eq_true hb]at hlt
     exact hlt
    rw[List.getElem?_take_of_lt hjn,List.getElem?_drop]at hs
    simp[hs]
  ·cases h
 |ax id o i z=>
  simp only[rd]at h
  split at h
  ·rename_i ow e l0 hl
   split at h
   ·rename_i k e0 r hst
    cases hb:Nat.beq n 1
    ·simp only[hb,cond_false]at h;cases h
    ·simp only[hb,cond_true]at h
     split at h
     ·rename_i x hx
      obtain⟨rfl,rfl⟩:=Prod.mk.inj (Option.some.inj h)
      refine⟨(Nat.eq_of_beq_eq_true hb).symm,fun j s hs=>?_⟩
      have hh:=H.rows id ow _ hl
      simp only[am.holds]at hh
      have hlt:=cL (aa.1 hv).1
      simp only[IE.den,aP]at hlt
      cases j with
      |zero=>
       obtain rfl:=Option.some.inj hs
       obtain⟨s,hs1,hs2⟩:=BP (ρ:=ρ) hx (i.den ρ).toNat (by simp only[List.length_cons];omega) (by rw[aP];simp)
       rw[←hst]at hs1
       have h3:=BO z _ _ _ _ hs1
       rw[List.getElem?_drop]at h3
       rw[PT.addr,ba,de hh,Nat.add_zero]
       simp only[List.getElem?_toArray,List.getElem?_map,h3,Option.map_some,hs2,SV.den]
      |succ j=>simp at hs
     ·cases h
   ·cases h
  ·cases h
 |fm fa i o=>
  simp only[rd]at h
  split at h
  ·rename_i ow e ks m le hl
   split at h
   ·rename_i r hr
    obtain⟨rfl,rfl⟩:=Prod.mk.inj (Option.some.inj h)
    obtain⟨hlen,hc⟩:=jE (ρ:=ρ) hr
    refine⟨hlen,fun j s hs=>?_⟩
    obtain⟨hrow,hinj⟩:=H.rows fa ow _ hl
    have hlt:=cL (aa.1 hv).1
    simp only[aP]at hlt
    obtain⟨cs,hcs,hz,hget⟩:=hrow (i.den ρ).toNat (by omega)
    have hj:j<n:=by
     have:=(List.getElem?_eq_some_iff.1 hs).1;omega
    obtain⟨k,s',hk,hs',hd⟩:=hc j hj
    rw[hs]at hs'
    obtain rfl:=Option.some.inj hs'
    rw[PT.addr,ba,de hcs,hd]
    exact hget _ k hk
   ·cases h
  ·cases h
 |fx fa i o x m=>simp only[rd]at h;cases h
 |el id i z o=>
  simp only[rd]at h
  split at h
  ·rename_i ow e ks m le hl
   cases hb:Nat.beq z ks.length
   ·simp only[hb,cond_false]at h;cases h
   ·simp only[hb,cond_true]at h
    have hzk:=Nat.eq_of_beq_eq_true hb
    subst hzk
    split at h
    ·rename_i r hr
     obtain⟨rfl,rfl⟩:=Prod.mk.inj (Option.some.inj h)
     obtain⟨hlen,hc⟩:=jE (ρ:=ρ) hr
     refine⟨hlen,fun j s hs=>?_⟩
     obtain⟨hno,hyes⟩:=H.rows id ow _ hl
     have hlt:=cL (aa.1 hv).1
     simp only[aP]at hlt
     cases hbb:ρ.b id
     ·have:=(hno hbb).1;omega
     ·obtain⟨cs,c,hx,hcs,hsz,hmc,hget⟩:=hyes hbb
      have hj:j<n:=by
       have:=(List.getElem?_eq_some_iff.1 hs).1;omega
      obtain⟨k,s',hk,hs',hd⟩:=hc j hj
      rw[hs]at hs'
      obtain rfl:=Option.some.inj hs'
      rw[PT.addr,ba,hcs.cell,hd,Nat.add_assoc]
      exact hget (i.den ρ).toNat (by omega) _ k hk
    ·cases h
  ·cases h
end
section
variable [cg] [Fm]
def fh(w:World)(b:Nat)(o:Obj):World:={w with heap:=w.heap.setIfInBounds b o}
theorem lC(w:World)(b:Nat)(o:Obj):(fh w b o).heap.size=w.heap.size:=by simp[fh]
theorem er(w:World)(b:Nat)(o:Obj){c:Nat}(h:c≠b):(fh w b o).heap[c]? =w.heap[c]? :=by
 simp only[fh,Array.getElem?_setIfInBounds]
 rw[if_neg (fun e=>h e.symm)]
theorem bG(w:World)(b:Nat)(o:Obj)(h:b<w.heap.size):(fh w b o).heap[b]? =some o:=by
 simp only[fh,Array.getElem?_setIfInBounds,if_true,h]
theorem pZ(w:World)(b:Nat)(o o':Obj):fh (fh w b o) b o'=fh w b o':=by
 simp[fh]
theorem uK(w:World)(b:Nat)(o:Obj)(h:w.heap[b]? =some o):fh w b o=w:=by
 have hb:=aw h
 have:w.heap.setIfInBounds b o=w.heap:=by
  apply Array.ext_getElem?
  intro i
  rw[Array.getElem?_setIfInBounds]
  by_cases hi:b=i
  ·subst hi;simp only[if_true,hb];exact h.symm
  ·rw[if_neg hi]
 simp only[fh,this]
theorem qI{w:World}{b o:Nat}{cs:Array Value}{e:TypeId}{f:Nat×Nat}(h:w.heap[b]? =some (.cells cs e f))(v:Value):
 w.setCell ⟨b,o,none⟩ v=fh w b (.cells (cs.setIfInBounds o v) e f):=by
 have hb:=aw h
 simp only[World.setCell,fh]
 congr 1
 apply Array.ext_getElem?
 intro i
 rw[Array.getElem?_modify,Array.getElem?_setIfInBounds]
 by_cases hi:b=i
 ·subst hi;simp only[if_true,h,Option.map_some,hb];simp
 ·rw[if_neg hi,if_neg hi]
def cA(cs:Array Value)(p:Nat):List Value→Array Value
 |[]=>cs
 |v::r=>cA (cs.setIfInBounds p v) (p+1) r
theorem cC:∀(vs:List Value) (cs:Array Value) (p:Nat),(cA cs p vs).size=cs.size
 |[],cs,p=>rfl
 |v::r,cs,p=>by simp only[cA,cC r,Array.size_setIfInBounds]
theorem df:∀(vs:List Value) (cs:Array Value) (p:Nat),p+vs.length≤cs.size→∀j,(cA cs p vs)[j]? =if p≤j∧j<p+vs.length then vs[j-p]? else cs[j]?
 |[],cs,p,h,j=>by simp only[cA,List.length_nil];rw[if_neg (by omega)]
 |v::r,cs,p,h,j=>by
  simp only[List.length_cons]at h
  rw[cA,df r _ (p+1) (by simp;omega) j,Array.getElem?_setIfInBounds,List.length_cons]
  by_cases h1:p+1≤j∧j<p+1+r.length
  ·rw[if_pos h1,if_pos (by omega),show j-p=(j-(p+1))+1 by omega,List.getElem?_cons_succ]
  ·rw[if_neg h1]
   by_cases h2:p=j
   ·subst h2;rw[if_pos rfl,if_pos (by omega),if_pos (by omega),Nat.sub_self];rfl
   ·rw[if_neg h2,if_neg (by omega)]
theorem dK(P:Program):∀(vs:List Value) (w:World) (b o i:Nat) (cs:Array Value) (e:TypeId),w.heap[b]? =some (.cells cs e (0,0))→o+i+vs.length≤cs.size→
 (∀v,v∈vs→v.oneCell'=true)→(storeCells ⟨b,o,none⟩ vs i).run P w=.ok () (fh w b (.cells (cA cs (o+i) vs) e (0,0)))
 |[],w,b,o,i,cs,e,h,hl,hv=>by simp only[storeCells,Sem.run_pure,cA,uK w b _ h]
 |v::r,w,b,o,i,cs,e,h,hl,hv=>by
  simp only[List.length_cons]at hl
  have hc:w.cell? ⟨b,o+i,none⟩=some cs[o+i]:=by rw[de h];exact Array.getElem?_eq_getElem (by omega)
  have hf:w.frozen? ⟨b,o+i,none⟩=false:=by simp[World.frozen?,h]
  simp only[storeCells,Sem.run_bind,ba,run_store P w _ v .plain (hv v (.head _)),hc,hf,Result.andThen,Bool.false_eq_true,if_false,qI h]
  rw[dK P r (fh w b (.cells (cs.setIfInBounds (o+i) v) e (0,0))) b o (i+1) _ e (bG _ _ _ (aw h)) (by simp;omega) (fun v' hv'=>hv v' (.tail _ hv')),pZ]
  rfl
def SV.one(L:af):SV→Bool
 |.agg _=>false
 |.tup _=>false
 |.opq _=>false
 |.yv _ _=>false
 |.lst id=>match ai (.h id) L with
  |some (.row _ (.lst _ _ _ _))=>true
  |_=>false
 |.con v=>v.oneCell'
 |_=>true
theorem SV.wG{C:bp}{ρ:ap}{L:af}{w:World}(H:HD C ρ L w){s:SV}(h:s.one L=true):(s.den ρ).oneCell'=true:=by
 cases s<;>simp only[SV.one,Bool.false_eq_true]at h<;>first|rfl|(simp only[SV.den];exact h)|skip
 rename_i id
 split at h
 ·rename_i o e ks n le hl
  have hh:=H.rows id o _ hl
  simp only[SV.den]
  cases hb:ρ.b id
  ·rcases(hh.1 hb).2 with g|⟨_,a,c,g⟩<;>rw[g]<;>rfl
  ·obtain⟨cs,c,hx,_⟩:=hh.2 hb
   rw[hx];rfl
 ·cases h
def svI(k:CK)(s:SV):Option IE:=
 match k,s with
 |.int k,.int j e=>bif gw k j then some e else none
 |.bool,.b e=>some (iR e (.lit 1) (.lit 0))
 |.byte,.int .u8 (.wrap .u8 e)=>some e
 |_,_=>none
theorem a5y{ρ:ap}{k:CK}{s:SV}{e:IE}(h:svI k s=some e):∀i,s.den ρ=k.v ρ i (e.den ρ):=by
 intro i
 by_cases hby:k=.byte
 ·subst hby
  unfold svI at h
  split at h
  ·contradiction
  ·contradiction
  ·obtain rfl:=Option.some.inj h;rfl
  ·cases h
 cases k<;>cases s<;>simp only[svI]at h<;>first|(cases h;done)|exact absurd rfl hby|skip
 ·rename_i k j e'
  cases hk:gw k j
  ·rw[hk]at h;cases h
  ·rw[hk]at h;obtain rfl:=Option.some.inj h;have:=bY hk;subst this;rfl
 ·rename_i e'
  obtain rfl:=Option.some.inj h
  simp only[SV.den,CK.v,fg,IE.den]
  cases e'.den ρ<;>rfl
def ny(ks:List CK)(le:LE)(i:IE)(c:Nat):List SV→Option LE
 |[]=>some le
 |s::r=>match ks[c]? with
  |some k=>match svI k s with
   |some e=>ny ks (.upd le i c e) i (c+1) r
   |none=>none
  |none=>none
theorem gB{ρ:ap}{ks:List CK}{i:IE}:∀{l:List SV} {le le':LE} {c:Nat},ny ks le i c l=some le'→
 ∀(a j:Nat) (k:CK),ks[j]? =some k→k.v ρ a (le'.den ρ a j)=if a=(i.den ρ).toNat∧c≤j∧j<c+l.length then((l.map (SV.den ρ))[j-c]?).getD undef else k.v ρ a (le.den ρ a j)
 |[],le,le',c,h,a,j,k,hk=>by
  simp only[ny]at h
  obtain rfl:=Option.some.inj h
  rw[if_neg];simp only[List.length_nil];omega
 |s::r,le,le',c,h,a,j,k,hk=>by
  simp only[ny]at h
  split at h
  ·rename_i k0 hk0
   split at h
   ·rename_i e he
    rw[gB h a j k hk]
    simp only[List.length_cons,List.map_cons,LE.den,ah]
    by_cases h1:a=(i.den ρ).toNat∧c+1≤j∧j<c+1+r.length
    ·rw[if_pos h1,if_pos ⟨h1.1,by omega,by omega⟩,show j-c=(j-(c+1))+1 by omega,List.getElem?_cons_succ]
    ·rw[if_neg h1]
     by_cases h2:a=(i.den ρ).toNat∧j=c
     ·obtain⟨ha,rfl⟩:=h2
      rw[hk0]at hk
      obtain rfl:=Option.some.inj hk
      rw[if_pos ⟨ha,rfl⟩,if_pos ⟨ha,by omega,by omega⟩,Nat.sub_self,←a5y he];rfl
     ·rw[if_neg h2,if_neg]
      rintro⟨ha,hb,hd⟩
      exact(Decidable.not_and_iff_not_or_not.1 h1).elim (fun g=>g ha) (fun g=>by
       have:¬j=c:=fun e=>h2 ⟨ha,e⟩
       exact g ⟨by omega,by omega⟩)
   ·cases h
  ·cases h
theorem HD.put{C:bp}{ρ:ap}{L:af}{w:World}(H:HD C ρ L w){id:Nat}{r r':am}(hl:ai (.h id) L=some (.row true r)){b:Nat}{o:Obj}(hb:r.owns ρ id b)
 (hown:∀c,r'.owns ρ id c↔r.owns ρ id c) (hh:r'.holds ρ id (fh w b o)):HD C ρ ((.h id,.row true r')::L) (fh w b o):=by
 have hkb:=H.own id r hl b hb
 refine H.step rfl rfl rfl (by rw[lC];exact Nat.le_refl _) (fun c hc=>er _ _ _ fun e=>by subst e;exact hkb hc)
  (fun i p s hi hs c hc=>er _ _ _ fun e=>?_) hh (fun _ c hc=>H.own id r hl c ((hown c).1 hc)) (fun h=>by cases h)
  (fun i p s hi hs _ c hc=>H.apart (fun e=>hi e.symm) hl hs (.inl rfl) ((hown c).1 hc))
 subst e
 exact H.apart (fun e=>hi e.symm) hl hs (.inl rfl) hb hc
def wr(L:af)(p:PT)(vs:List SV):Option (List F×Nat×am):=
 bif !(vs.all (SV.one L))then none else
 match p with
 |.at id o=>
  match ai (.h id) L with
  |some (.row true (.cells e l))=>
   bif Nat.ble (o+vs.length) l.length then some ([],id,.cells e (l.take o++(vs++l.drop (o+vs.length))))else none
  |_=>none
 |.ax _ _ _ _=>none
 |.fx _ _ _ _ _=>none
 |.el id i z o=>
  match ai (.h id) L with
  |some (.row true (.lst e ks m le))=>
   bif !(Nat.beq e 0)&&(Nat.beq z ks.length&&Nat.ble (o+vs.length) z)then
    match ny ks le i o vs with
    |some le'=>some ([.be (.cmp .lss (bf i) (bf m))],id,.lst e ks m le')
    |none=>none
   else none
  |_=>none
 |.fm fa i o=>
  match ai (.h fa) L with
  |some (.row true (.fam e ks m le))=>
   bif Nat.ble (o+vs.length) ks.length then
    match ny ks le i o vs with
    |some le'=>some ([.be (.cmp .lss (bf i) (bf m))],fa,.fam e ks m le')
    |none=>none
   else none
  |_=>none
theorem gC(ρ:ap)(l vs:List SV)(o:Nat)(h:o+vs.length≤l.length):
 cA (l.map (SV.den ρ)).toArray o (vs.map (SV.den ρ))=((l.take o++(vs++l.drop (o+vs.length))).map (SV.den ρ)).toArray:=by
 apply Array.ext_getElem?
 intro j
 rw[df _ _ _ (by simpa using h)]
 simp only[List.length_map,List.getElem?_toArray,List.getElem?_map]
 by_cases h1:j<o
 ·rw[if_neg (by omega),List.getElem?_append_left (by simp;omega),List.getElem?_take_of_lt h1]
 ·rw[List.getElem?_append_right (by simp;omega)]
  simp only[List.length_take]
  rw[Nat.min_eq_left (by omega)]
  by_cases h2:j<o+vs.length
  ·rw[if_pos ⟨by omega,h2⟩,List.getElem?_append_left (by omega)]
  ·rw[if_neg (by omega),List.getElem?_append_right (by omega),List.getElem?_drop]
   congr 2;omega
theorem Ww{C:bp}{ρ:ap}{L:af}{w:World}(H:HD C ρ L w){p:PT}{vs:List SV}{v:List F}{id:Nat}{r':am}(h:wr L p vs=some (v,id,r'))(hv:ar ρ v)(P:Program):
 ∃w',(storeCells (p.addr ρ) (vs.map (SV.den ρ))).run P w=.ok () w'∧HD C ρ ((.h id,.row true r')::L) w':=by
 unfold wr at h
 cases hone:vs.all (SV.one L)
 ·simp only[hone,Bool.not_false,cond_true]at h;cases h
 ·simp only[hone,Bool.not_true,cond_false]at h
  have hcell:∀x,x∈vs.map (SV.den ρ)→x.oneCell'=true:=by
   intro x hx
   obtain⟨s,hs,rfl⟩:=List.mem_map.1 hx
   exact SV.wG H (List.all_eq_true.1 hone s hs)
  cases p with
  |«at» id0 o=>
   simp only at h
   split at h
   ·rename_i e l hl
    cases hb:Nat.ble (o+vs.length) l.length
    ·simp only[hb,cond_false]at h;cases h
    ·simp only[hb,cond_true]at h
     obtain⟨rfl,h'⟩:=Prod.mk.inj (Option.some.inj h)
     obtain⟨rfl,rfl⟩:=Prod.mk.inj h'
     have hle:=Nat.le_of_ble_eq_true hb
     have hh:=H.rows id0 true _ hl
     simp only[am.holds]at hh
     refine⟨_,dK P _ w (ρ.k id0) o 0 _ e hh (by simpa using hle) hcell,?_⟩
     refine H.put hl (b:=ρ.k id0) rfl (fun c=>Iff.rfl) ?_
     simp only[am.holds,Nat.add_zero]
     rw[bG _ _ _ (aw hh),gC ρ l vs o hle]
   ·cases h
  |ax id0 o i z=>cases h
  |fx a b c d e=>cases h
  |el id0 i z o=>
   simp only at h
   split at h
   ·rename_i e ks m le hl
    cases hb:(!(Nat.beq e 0)&&(Nat.beq z ks.length&&Nat.ble (o+vs.length) z))
    ·simp only[hb,cond_false]at h;cases h
    ·simp only[hb,cond_true]at h
     simp only[Bool.and_eq_true,Bool.not_eq_true']at hb
     obtain⟨he0,hb⟩:=hb
     have hz:=Nat.eq_of_beq_eq_true hb.1
     subst hz
     have hle:=Nat.le_of_ble_eq_true hb.2
     split at h
     ·rename_i le' hle'
      obtain⟨rfl,h'⟩:=Prod.mk.inj (Option.some.inj h)
      obtain⟨rfl,rfl⟩:=Prod.mk.inj h'
      obtain⟨hno,hyes⟩:=H.rows id0 true _ hl
      have hlt:=cL (aa.1 hv).1
      simp only[aP]at hlt
      cases hbb:ρ.b id0
      ·have:=(hno hbb).1;omega
      ·obtain⟨cs,cp,hx,hcs,hsz,hmc,hget⟩:=hyes hbb
       have hcs:=hcs.get he0
       have hsz:(ρ.f id0 0)+cp*ks.length≤cs.size:=by
        rcases hsz with g|g
        ·subst g;cases he0
        ·exact g
       have hi:(i.den ρ).toNat<(m.den ρ).toNat:=by omega
       have hmul:=Nat.mul_le_mul_right ks.length (show(i.den ρ).toNat+1≤cp by omega)
       rw[Nat.add_mul,Nat.one_mul]at hmul
       have hfit:(ρ.f id0 0)+(i.den ρ).toNat*ks.length+o+0+(vs.map (SV.den ρ)).length≤cs.size:=by
        rw[List.length_map];omega
       refine⟨_,dK P _ w (ρ.k id0) ((ρ.f id0 0)+(i.den ρ).toNat*ks.length+o) 0 cs e hcs hfit hcell,?_⟩
       refine H.put hl (b:=ρ.k id0) ⟨hbb,rfl⟩ (fun c=>Iff.rfl) ⟨fun hf=>absurd (hbb.symm.trans hf) (by decide),fun _=>?_⟩
       refine⟨_,cp,hx,.inl (bG _ _ _ (aw hcs)),.inr (by rw[cC];exact hsz),hmc,fun a ha j k hk=>?_⟩
       have hjk:j<ks.length:=(List.getElem?_eq_some_iff.1 hk).1
       rw[df _ _ _ (by simpa using hfit),List.length_map]
       have hput:=gB (ρ:=ρ) hle' a j k hk
       have hiff:((ρ.f id0 0)+(i.den ρ).toNat*ks.length+o+0≤(ρ.f id0 0)+a*ks.length+j∧(ρ.f id0 0)+a*ks.length+j<(ρ.f id0 0)+(i.den ρ).toNat*ks.length+o+0+vs.length)↔(a=(i.den ρ).toNat∧o≤j∧j<o+vs.length):=by
        generalize (i.den ρ).toNat=q at*
        constructor
        ·intro hh
         have haq:a=q:=by
          rcases Nat.lt_trichotomy a q with g|g|g
          ·have:=Nat.mul_le_mul_right ks.length (show a+1≤q by omega)
           rw[Nat.add_mul,Nat.one_mul]at this;omega
          ·exact g
          ·have:=Nat.mul_le_mul_right ks.length (show q+1≤a by omega)
           rw[Nat.add_mul,Nat.one_mul]at this;omega
         subst haq
         exact⟨rfl,by omega,by omega⟩
        ·rintro⟨rfl,g1,g2⟩;omega
       by_cases hc:a=(i.den ρ).toNat∧o≤j∧j<o+vs.length
       ·rw[if_pos (hiff.2 hc),hput,if_pos hc]
        obtain⟨rfl,g1,g2⟩:=hc
        rw[show(ρ.f id0 0)+(i.den ρ).toNat*ks.length+j-((ρ.f id0 0)+(i.den ρ).toNat*ks.length+o+0)=j-o by omega]
        rw[List.getElem?_eq_getElem (by simp;omega)];rfl
       ·rw[if_neg (fun g=>hc (hiff.1 g)),hput,if_neg hc]
        exact hget a ha j k hk
     ·cases h
   ·cases h
  |fm fa i o=>
   simp only at h
   split at h
   ·rename_i e ks m le hl
    cases hb:Nat.ble (o+vs.length) ks.length
    ·simp only[hb,cond_false]at h;cases h
    ·simp only[hb,cond_true]at h
     have hle:=Nat.le_of_ble_eq_true hb
     split at h
     ·rename_i le' hle'
      obtain⟨rfl,h'⟩:=Prod.mk.inj (Option.some.inj h)
      obtain⟨rfl,rfl⟩:=Prod.mk.inj h'
      obtain⟨hrow,hinj⟩:=H.rows fa true _ hl
      have hlt:=cL (aa.1 hv).1
      simp only[aP]at hlt
      have hi:(i.den ρ).toNat<(m.den ρ).toNat:=by omega
      obtain⟨cs,hcs,hsz,hget⟩:=hrow _ hi
      have hfit:o+0+(vs.map (SV.den ρ)).length≤cs.size:=by rw[hsz,List.length_map];omega
      refine⟨_,dK P _ w (ρ.f fa (i.den ρ).toNat) o 0 cs e hcs hfit hcell,?_⟩
      refine H.put hl (b:=ρ.f fa (i.den ρ).toNat) ⟨_,hi,rfl⟩ (fun c=>Iff.rfl) ⟨fun a ha=>?_,hinj⟩
      by_cases hai:a=(i.den ρ).toNat
      ·subst hai
       refine⟨_,bG _ _ _ (aw hcs),by rw[cC];exact hsz,fun j k hk=>?_⟩
       have hjk:j<ks.length:=(List.getElem?_eq_some_iff.1 hk).1
       rw[df _ _ _ (by simpa using hfit),gB (ρ:=ρ) hle' _ j k hk,List.length_map]
       by_cases hc:o+0≤j∧j<o+0+vs.length
       ·rw[if_pos hc,if_pos ⟨rfl,by omega,by omega⟩,Nat.add_zero]
        rw[List.getElem?_eq_getElem (by simp;omega)];rfl
       ·rw[if_neg hc,if_neg (fun g=>hc ⟨by omega,by omega⟩)]
        exact hget j k hk
      ·obtain⟨cs2,hcs2,hsz2,hget2⟩:=hrow a ha
       refine⟨cs2,by rw[er _ _ _ (fun e=>hai (hinj _ _ ha hi e))];exact hcs2,hsz2,fun j k hk=>?_⟩
       rw[gB (ρ:=ρ) hle' _ j k hk,if_neg (fun g=>hai g.1)]
       exact hget2 j k hk
     ·cases h
   ·cases h
end
section
variable [cg] [Fm]
structure OR where
 vcs:List F
 facts:List F
 val:SV
 log:af
 nxt:Nat
def ady(P:Program)(o:Oper)(c:BE)(L:af)(n:Nat)(r:OR):Prop:=
 ∀(C:bp) (nt:Nat) (ρ:ap) (a:Act) (w:World),HD C ρ L w→RD nt ρ L a→c.den ρ=true→ar ρ r.vcs→af.avo n r.nxt L=true→
  ∃(ρ':ap) (w':World) (nx:Next),(execOp a.eval o).run P w=.ok nx w'∧(nx=.value (r.val.den ρ')∨(nx=.skip∧r.val.den ρ'=undef))∧
   b7 n r.nxt ρ ρ'∧ar ρ' r.facts∧HD C ρ' (r.log++L) w'
theorem ady.pure{P:Program}{o:Oper}{c:BE}{L:af}{n:Nat}{vcs:List F}{s:SV}
 (h:∀(C:bp) (nt:Nat) (ρ:ap) (a:Act) (w:World),HD C ρ L w→RD nt ρ L a→c.den ρ=true→ar ρ vcs→(execOp a.eval o).run P w=.ok (.value (s.den ρ)) w):
 ady P o c L n ⟨vcs,[],s,[],n⟩:=
 fun C nt ρ a w H R hc hv _=>⟨ρ,w,_,h C nt ρ a w H R hc hv,.inl rfl,b7.refl _ _ _,aj _,H⟩
def eZ(P:Program)(t:TypeId):Option Nat:=(P.info? t).map (·.size)
def sC(P:Program)(t:TypeId):Option Value:=(P.info? t).bind (·.zero)
def BQ(P:Program)(t:TypeId):Option Bool:=
 match P.underlying t with
 |some (.struct _)=>some true
 |some (.array _ _)=>some true
 |some _=>some false
 |none=>none
section
variable {P : Program} {t : TypeId} (w : World)
theorem bC{z:Nat}(h:eZ P t=some z):(sizeOf t).run P w=.ok z w:=by
 unfold eZ at h
 cases hi:P.info? t with
 |none=>rw[hi]at h;cases h
 |some i=>rw[hi]at h;obtain rfl:=Option.some.inj h;simp[sizeOf,typeInfo,hi]
theorem aR{d:TypeDesc}(h:P.underlying t=some d):(underlying t).run P w=.ok d w:=by simp[underlying,h]
theorem gb{v:Value}(h:sC P t=some v):(zeroValue t).run P w=.ok v w:=by
 unfold sC at h
 cases hi:P.info? t with
 |none=>rw[hi]at h;cases h
 |some i=>rw[hi]at h;simp only[Option.bind_some]at h;simp[zeroValue,typeInfo,hi,h]
theorem jG{b:Bool}(h:BQ P t=some b):(isAgg t).run P w=.ok b w:=by
 unfold BQ at h
 cases hu:P.underlying t with
 |none=>rw[hu]at h;cases h
 |some d=>
  rw[hu]at h
  simp only[isAgg,Sem.run_bind,aR w hu,Result.andThen]
  cases d<;>simp only[Option.some.injEq]at h<;>subst h<;>rfl
end
def sD(ρ:ap)(n b:Nat):ap:={ρ with k:=fun v=>if v=n then b else ρ.k v}
theorem kV(ρ:ap)(n b:Nat):b7 n (n+1) ρ (sD ρ n b):=by
 constructor<;>intro v hv<;>first|rfl|(simp only[sD];rw[if_neg (by omega)])
theorem jI(ρ:ap)(n b:Nat):(sD ρ n b).k n=b:=by simp[sD]
theorem HD.new{C:bp}{ρ:ap}{L:af}{w:World}(H:HD C ρ L w){n:Nat}(hL:af.avo n (n+1) L=true){r:am}{o:Obj}
 (hown:∀c,r.owns (sD ρ n w.heap.size) n c→c=w.heap.size) (hh:r.holds (sD ρ n w.heap.size) n (w.alloc o)):
 HD C (sD ρ n w.heap.size) ((.h n,.row true r)::L) (w.alloc o):=by
 have H':=H.agr (kV ρ n w.heap.size) hL
 refine H'.step rfl rfl rfl (by simp) (fun b hb=>Below.heap_alloc _ _ _ (H'.keep_lt hb)) (fun i p s hi hs b hb=>Below.heap_alloc _ _ _ (H'.lt hs hb)) hh
  (fun _ b hb hk=>?_) (fun h=>by cases h) (fun i p s hi hs _ b hb hc=>?_)
 ·have:=H'.keep_lt hk
  rw[hown b hb]at this;omega
 ·have:=H'.lt hs hc
  rw[hown b hb]at this;omega
theorem HD.newCells{C:bp}{ρ:ap}{L:af}{w:World}(H:HD C ρ L w){n:Nat}(hL:af.avo n (n+1) L=true){e:TypeId}{l:List SV}(hl:SV.avos n (n+1) l=true):
 HD C (sD ρ n w.heap.size) ((.h n,.row true (.cells e l))::L) (w.alloc (.cells (l.map (SV.den ρ)).toArray e)):=by
 refine H.new hL (fun c hc=>by simp only[am.owns,jI]at hc;exact hc) ?_
 simp only[am.holds,jI,←SV.b9,SV.eH (kV ρ n w.heap.size) l hl]
 show(w.heap.push _)[w.heap.size]? =_
 rw[Array.getElem?_push_size]
def SV.cells:SV→Option (List SV)
 |.agg l=>some l
 |.tup _|.opq _|.lst _|.yv _ _=>none
 |.con v=>match v with
  |.agg _=>none
  |v=>some [.con v]
 |s=>some [s]
theorem SV.q7{ρ:ap}{s:SV}{l:List SV}(h:s.cells=some l):(s.den ρ).cells=(l.map (SV.den ρ)).toArray:=by
 cases s<;>simp only[SV.cells]at h<;>first
  |(cases h;done)
  |(obtain rfl:=Option.some.inj h;simp[SV.den,Value.cells,SV.b9];done)
  |skip
 rename_i v
 split at h
 ·cases h
 ·obtain rfl:=Option.some.inj h
  rename_i hv
  simp only[SV.den,List.map_cons,List.map_nil]
  cases v<;>first|rfl|(exact absurd rfl (hv _))
def SV.cellsL(L:af)(s:SV):Option (List SV):=
 match s with
 |.lst id=>match ai (.h id) L with
  |some (.row _ (.lst _ _ _ _))=>some [.lst id]
  |_=>none
 |s=>s.cells
theorem SV.jJ{C:bp}{ρ:ap}{L:af}{w:World}(H:HD C ρ L w){s:SV}{l:List SV}(h:s.cellsL L=some l):(s.den ρ).cells=(l.map (SV.den ρ)).toArray:=by
 unfold SV.cellsL at h
 split at h
 ·rename_i id
  split at h
  ·rename_i o e ks n le hl
   obtain rfl:=Option.some.inj h
   have hr:=H.rows id o _ hl
   simp only[am.holds]at hr
   have:∃a b c,ρ.x id=.slice a b c:=by
    cases hb:ρ.b id
    ·rcases(hr.1 hb).2 with h'|⟨_,a,c,h'⟩
     ·exact⟨_,_,_,h'⟩
     ·exact⟨_,_,_,h'⟩
    ·obtain⟨cs,c,h',_⟩:=hr.2 hb
     exact⟨_,_,_,h'⟩
   obtain⟨a,b,c,h'⟩:=this
   simp only[SV.den,List.map_cons,List.map_nil,h']
   rfl
  ·cases h
 ·exact SV.q7 h
def a5z(L:af)(n:Nat)(e:TypeId)(s:SV):Option OR:=
 match s.cellsL L with
 |some l=>bif SV.avos n (n+1) l then some ⟨[],[],.ptr (.at n 0),[(.h n,.row true (.cells e l))],n+1⟩else none
 |none=>none
theorem BR{P:Program}{C:bp}{ρ:ap}{L:af}{w:World}(H:HD C ρ L w){n:Nat}{e:TypeId}{s:SV}{r:OR}(h:a5z L n e s=some r)(hL:af.avo n r.nxt L=true):
 ∃ρ' w',(newVar e (s.den ρ)).run P w=.ok ⟨ρ'.k n,0,none⟩ w'∧r.vcs=[]∧r.facts=[]∧r.val=.ptr (.at n 0)∧b7 n r.nxt ρ ρ'∧HD C ρ' (r.log++L) w':=by
 unfold a5z at h
 split at h
 ·rename_i l hl
  cases hb:SV.avos n (n+1) l
  ·rw[hb]at h;cases h
  ·rw[hb]at h
   obtain rfl:=Option.some.inj h
   refine⟨sD ρ n w.heap.size,w.alloc (.cells (l.map (SV.den ρ)).toArray e),?_,rfl,rfl,rfl,kV _ _ _,H.newCells hL hb⟩
   simp only[newVar,newRow,SV.jJ H hl,Sem.run_bind,run_newObj,Result.andThen,Sem.run_pure,jI,World.alloc]
 ·cases h
def uL(P:Program)(L:af)(t:TypeId)(s:SV):Option (List F×SV):=
 match s,BQ P t with
 |.ptr p,some true=>
  match eZ P t with
  |some z=>match rd L p z with
   |some (v,l)=>some (v,.agg l)
   |none=>none
  |none=>none
 |.ptr p,some false=>
  match rd L p 1 with
  |some (v,[x])=>some (v,x)
  |_=>none
 |_,_=>none
theorem lD{P:Program}{C:bp}{ρ:ap}{L:af}{w:World}(H:HD C ρ L w){t:TypeId}{s x:SV}{v:List F}(h:uL P L t s=some (v,x))(hv:ar ρ v):
 (Instr.loadAt t (s.den ρ)).run P w=.ok (x.den ρ) w:=by
 unfold uL at h
 split at h
 ·rename_i p ha
  split at h
  ·rename_i z hz
   split at h
   ·rename_i v' l hr
    obtain⟨rfl,rfl⟩:=Prod.mk.inj (Option.some.inj h)
    obtain⟨hlen,hc⟩:=kU H hr hv
    simp only[SV.den,Instr.loadAt,Instr.sureAddr,Sem.run_bind,Sem.run_pure,Result.andThen,loadVar,jG w ha,if_true,bC w hz]
    have:=run_loadCells_list (P:=P) w (p.addr ρ) (l.map (SV.den ρ)) (fun j v hj=>by
     rw[List.getElem?_map]at hj
     cases hl:l[j]? with
     |none=>rw[hl]at hj;cases hj
     |some s'=>rw[hl]at hj;obtain rfl:=Option.some.inj hj;exact hc j s' hl)
    rw[List.length_map,hlen]at this
    rw[this]
    simp only[SV.b9]
   ·cases h
  ·cases h
 ·rename_i p ha
  split at h
  ·rename_i v' x' hr
   obtain⟨rfl,rfl⟩:=Prod.mk.inj (Option.some.inj h)
   obtain⟨hlen,hc⟩:=kU H hr hv
   have h0:=hc 0 x' rfl
   have ha0:(p.addr ρ).add 0=p.addr ρ:=by cases p<;>rfl
   rw[ha0]at h0
   simp only[SV.den,Instr.loadAt,Instr.sureAddr,Sem.run_bind,Sem.run_pure,Result.andThen,loadVar,jG w ha,Bool.false_eq_true,if_false,run_load,h0]
  ·cases h
 ·cases h
def H4(P:Program)(L:af)(t:TypeId)(s x:SV):Option (List F×aO×aY):=
 match s,x.cellsL L,eZ P t with
 |.ptr p,some l,some z=>
  bif Nat.beq l.length z then
   match wr L p l with
   |some (v,id,r)=>some (v,.h id,.row true r)
   |none=>none
  else none
 |_,_,_=>none
theorem H5{P:Program}{C:bp}{ρ:ap}{L:af}{w:World}(H:HD C ρ L w){t:TypeId}{s x:SV}{v:List F}{k:aO}{e:aY}(h:H4 P L t s x=some (v,k,e))(hv:ar ρ v):
 ∃w',(Instr.storeAt t (s.den ρ) (x.den ρ)).run P w=.ok () w'∧HD C ρ ((k,e)::L) w':=by
 unfold H4 at h
 split at h
 ·rename_i p l z hl hz
  cases hb:Nat.beq l.length z
  ·rw[hb]at h;cases h
  ·rw[hb]at h
   simp only[cond_true]at h
   split at h
   ·rename_i v' id r hw
    obtain⟨rfl,h'⟩:=Prod.mk.inj (Option.some.inj h)
    obtain⟨rfl,rfl⟩:=Prod.mk.inj h'
    obtain⟨w',hrun,hd⟩:=Ww H hw hv P
    refine⟨w',?_,hd⟩
    have hsz:((x.den ρ).cells).size=z:=by rw[SV.jJ H hl,List.size_toArray,List.length_map];exact Nat.eq_of_beq_eq_true hb
    simp only[SV.den,Instr.storeAt,Instr.sureAddr,Sem.run_bind,Sem.run_pure,Result.andThen,storeVar,bC w hz,hsz,ne_eq,not_true_eq_false,if_false]
    rw[SV.jJ H hl]
    exact hrun
   ·cases h
 ·cases h
def PT.plus(k:Nat):PT→PT
 |.at id o=> .at id (o+k)
 |.ax id o i z=> .ax id (o+k) i z
 |.fm f i o=> .fm f i (o+k)
 |.el id i z o=> .el id i z (o+k)
 |.fx f i o x m=> .fx f i (o+k) x m
theorem PT.OD(ρ:ap)(k:Nat)(p:PT):(p.plus k).addr ρ=(p.addr ρ).add k:=by
 cases p<;>simp only[PT.plus,PT.addr,ba]
 ·congr 1;omega
 ·congr 1;omega
 ·congr 1;omega
def PT.idx(p:PT)(i:IE)(z:Nat)(len:Nat:=0):Option PT:=
 match p with
 |.at id o=>match i with
  |.lit (.ofNat n)=>some (.at id (o+n*z))
  |_=>some (.ax id o i z)
 |.ax id o j y=>bif Nat.beq y z then some (.ax id o (cK (bf j) (bf i)) z)else none
 |.fm f j o=>match i with
  |.lit (.ofNat n)=>some (.fm f j (o+n*z))
  |_=>bif Nat.beq z 1 then some (.fx f j o i len)else none
 |.fx _ _ _ _ _=>none
 |.el _ _ _ _=>none
theorem PT.BS{ρ:ap}{p q:PT}{i:IE}{z len:Nat}(h:p.idx i z len=some q):q.addr ρ=(p.addr ρ).add ((i.den ρ).toNat*z):=by
 cases p with
 |«at» id o=>
  simp only[PT.idx]at h
  split at h
  ·obtain rfl:=Option.some.inj h;simp only[PT.addr,ba,IE.den];rfl
  ·obtain rfl:=Option.some.inj h;simp only[PT.addr,ba]
 |ax id o j y=>
  simp only[PT.idx]at h
  cases hb:Nat.beq y z
  ·rw[hb]at h;cases h
  ·rw[hb]at h
   obtain rfl:=Option.some.inj h
   have:=Nat.eq_of_beq_eq_true hb
   subst this
   simp only[PT.addr,ba,bU,aP]
   congr 1
   rw[show((((j.den ρ).toNat:Int)+((i.den ρ).toNat:Int))).toNat=(j.den ρ).toNat+(i.den ρ).toNat by omega,Nat.add_mul]
   omega
 |fm a b c=>
  simp only[PT.idx]at h
  split at h
  ·obtain rfl:=Option.some.inj h;simp only[PT.addr,ba,IE.den];rfl
  ·cases hb:Nat.beq z 1
   ·rw[hb]at h;cases h
   ·rw[hb]at h
    obtain rfl:=Option.some.inj h
    have:=Nat.eq_of_beq_eq_true hb
    subst this
    simp only[PT.addr,ba,Nat.mul_one]
 |fx a b c d e=>cases h
 |el a b c d=>cases h
def H6(P:Program)(t:TypeId)(s:SV)(f:Nat):Option SV:=
 match P.underlying t,s with
 |some (.struct fs),.ptr p=>
  match fs[f]? with
  |some fd=>match eZ P fd.type with
   |some z=>bif Nat.beq z 0 then none else some (.ptr (p.plus fd.offset))
   |none=>none
  |none=>none
 |_,_=>none
theorem H7{P:Program}{t:TypeId}{s x:SV}{f:Nat}(h:H6 P t s f=some x)(ρ:ap)(w:World):(Instr.fieldAt t (s.den ρ) f).run P w=.ok (x.den ρ) w:=by
 unfold H6 at h
 split at h
 ·rename_i fs p hu
  split at h
  ·rename_i fd hf
   split at h
   ·rename_i z hz
    cases hb:Nat.beq z 0
    ·rw[hb]at h
     obtain rfl:=Option.some.inj h
     have hz0:¬z=0:=fun e=>by rw[e]at hb;cases hb
     simp only[SV.den,Instr.fieldAt,Sem.run_bind,aR w hu,Result.andThen,hf,Instr.sureAddr,Sem.run_pure,fieldPlace,bC w hz,if_neg hz0,Sem.run_ite,PT.OD]
    ·rw[hb]at h;cases h
   ·cases h
  ·cases h
 ·cases h
def q8(P:Program)(L:af)(t:TypeId)(s i:SV):Option (List F×SV):=
 match i with
 |.int k ie=>
  match P.underlying t,s with
  |some (.slice el),.sl p n _=>
   match eZ P el with
   |some z=>match p.idx ie z with
    |some q=>some ([.be (.cmp .leq (.lit 0) ie),.be (.cmp .lss ie (bf n))],.ptr q)
    |none=>none
   |none=>none
  |some (.array len el),.ptr p=>
   match eZ P el with
   |some z=>match p.idx ie z len with
    |some q=>some ([.be (.cmp .leq (.lit 0) ie),.be (.cmp .lss ie (.lit (len:Nat)))],.ptr q)
    |none=>none
   |none=>none
  |some (.slice el),.lst id=>
   match eZ P el,ai (.h id) L with
   |some z,some (.row _ (.lst _ _ n _))=>some ([.be (.cmp .leq (.lit 0) ie),.be (.cmp .lss ie (bf n))],.ptr (.el id ie z 0))
   |_,_=>none
  |_,_=>none
 |_=>none
theorem cd{ρ:ap}{a b:IE}(h:(F.be (.cmp .leq a b)).holds ρ):a.den ρ≤b.den ρ:=by
 simpa [F.holds,BE.den,bv] using h
theorem nz{P:Program}{C:bp}{L:af}{t:TypeId}{s i x:SV}{v:List F}{ρ:ap}{w:World}(H:HD C ρ L w)(h:q8 P L t s i=some (v,x))(hv:ar ρ v):(Instr.indexAt t (s.den ρ) (i.den ρ)).run P w=.ok (x.den ρ) w:=by
 unfold q8 at h
 split at h
 ·rename_i k ie
  split at h
  ·rename_i el p n cp hu
   split at h
   ·rename_i z hz
    split at h
    ·rename_i q hq
     obtain⟨rfl,rfl⟩:=Prod.mk.inj (Option.some.inj h)
     have h1:=cd (aa.1 hv).1
     have h2:=cL (aa.1 (aa.1 hv).2).1
     simp only[IE.den,aP]at h1 h2
     simp only[SV.den,Instr.indexAt,asIntOf,Sem.run_bind,Sem.run_pure,Result.andThen,aR w hu]
     rw[PT.BS hq,if_pos ⟨h1,h2⟩]
     simp only[Sem.run_bind,bC w hz,Result.andThen,Sem.run_pure]
    ·cases h
   ·cases h
  ·rename_i len el p hu
   split at h
   ·rename_i z hz
    split at h
    ·rename_i q hq
     obtain⟨rfl,rfl⟩:=Prod.mk.inj (Option.some.inj h)
     have h1:=cd (aa.1 hv).1
     have h2:=cL (aa.1 (aa.1 hv).2).1
     simp only[IE.den,aP]at h1 h2
     simp only[SV.den,Instr.indexAt,asIntOf,Sem.run_bind,Sem.run_pure,Result.andThen,aR w hu,Instr.sureAddr]
     rw[PT.BS hq,if_pos ⟨h1,h2⟩]
     simp only[Sem.run_bind,bC w hz,Result.andThen,Sem.run_pure]
    ·cases h
   ·cases h
  ·rename_i el id hu
   split at h
   ·rename_i z o e ks n le hz hl
    obtain⟨rfl,rfl⟩:=Prod.mk.inj (Option.some.inj h)
    have h1:=cd (aa.1 hv).1
    have h2:=cL (aa.1 (aa.1 hv).2).1
    simp only[IE.den,aP]at h1 h2
    have hh:=H.rows id o _ hl
    cases hb:ρ.b id
    ·have:=(hh.1 hb).1
     omega
    ·obtain⟨cs,c,hx,_⟩:=hh.2 hb
     simp only[SV.den,hx,Instr.indexAt,asIntOf,Sem.run_bind,Sem.run_pure,Result.andThen,aR w hu]
     rw[if_pos ⟨h1,h2⟩]
     simp only[Sem.run_bind,bC w hz,Result.andThen,Sem.run_pure,PT.addr,Nat.add_zero,ba]
   ·cases h
  ·cases h
 ·cases h
end
section
variable [cg] [Fm]
def wI(op:BinOp)(k:IntKind)(a b:IE):Option (List F×SV):=
 match op with
 |.add=>some ([],.int k (jC k (cK a b)))
 |.sub=>some ([],.int k (jC k (qG a b)))
 |.mul=>some ([],.int k (jC k (MN a b)))
 |.quo=>some ([.be (eI .neq b (.lit 0))],.int k (jC k (MO a b)))
 |.rem=>some ([.be (eI .neq b (.lit 0))],.int k (MP a b))
 |.and=>some ([],.int k (.bits .and k a b))
 |.or=>some ([],.int k (.bits .or k a b))
 |.xor=>some ([],.int k (.bits .xor k a b))
 |.andNot=>some ([],.int k (.bits .andNot k a b))
 |.eql=>some ([],.b (eI .eql a b))
 |.neq=>some ([],.b (eI .neq a b))
 |.lss=>some ([],.b (eI .lss a b))
 |.leq=>some ([],.b (eI .leq a b))
 |.gtr=>some ([],.b (eI .gtr a b))
 |.geq=>some ([],.b (eI .geq a b))
 |_=>none
theorem Wx{ρ:ap}{b:IE}(h:(F.be (eI .neq b (.lit 0))).holds ρ):¬b.den ρ=0:=by
 simp only[F.holds,dq,bv,IE.den,bne_iff_ne,ne_eq]at h
 exact h
theorem BT{P:Program}{op:BinOp}{k:IntKind}{a b:IE}{v:List F}{s:SV}(h:wI op k a b=some (v,s)){ρ:ap}(hv:ar ρ v)(t:TypeId)(w:World):
 (binOp op t (.int k (a.den ρ)) (.int k (b.den ρ))).run P w=.ok (s.den ρ) w:=by
 cases op<;>simp only[wI,Option.some.injEq,Prod.mk.injEq]at h<;>first
  |(cases h;done)
  |(obtain⟨rfl,rfl⟩:=h;simp[binOp,Op.intArith,SV.den,gz,bU,lA,uH];done)
  |(obtain⟨rfl,rfl⟩:=h;have:=Wx (aa.1 hv).1;simp[binOp,Op.intDiv,SV.den,gz,uI,uJ,IE.den,this];done)
  |(obtain⟨rfl,rfl⟩:=h;simp[binOp,Op.intBits,SV.den,IE.den,aQ];done)
  |(obtain⟨rfl,rfl⟩:=h;simp[binOp,Op.intCmp,SV.den,dq,bv];done)
def Wz(P:Program)(xs ys:List SV):List Field→Option BE
 |[]=>some (.lit true)
 |f::r=>
  bif decide (f.name = "_") then none else
  match BQ P f.type,P.underlying f.type,xs[f.offset]?,ys[f.offset]?,Wz P xs ys r with
  |some false,some (.int _),some (.int k a),some (.int j b),some e=>bif gw k j then some (kS (eI .eql a b) e (.lit false))else none
  |some false,some .bool,some (.b a),some (.b b),some e=>some (kS (sA a b) e (.lit false))
  |_,_,_,_,_=>none
theorem nV{P:Program}{t:TypeId}{l:List SV}{o:Nat}{s:SV}{ρ:ap}(w:World)(ha:BQ P t=some false)(h:l[o]? =some s):(part t (l.map (SV.den ρ)).toArray o).run P w=.ok (s.den ρ) w:=by
 simp[part,jG w ha,h]
theorem sE{P:Program}{xs ys:List SV}{ρ:ap}(d:Nat)(w:World):∀{fs:List Field} {e:BE},Wz P xs ys fs=some e→
 (Op.eqFields (d+1) (xs.map (SV.den ρ)).toArray (ys.map (SV.den ρ)).toArray fs).run P w=.ok (e.den ρ) w
 |[],e,h=>by simp only[Wz]at h;obtain rfl:=Option.some.inj h;rfl
 |f::r,e,h=>by
  simp only[Wz]at h
  cases hn : decide (f.name = "_")
  ·simp only[hn,cond_false]at h
   have hn' : f.name ≠ "_" := of_decide_eq_false hn
   split at h
   ·rename_i k0 k a j b e' ha hu hx hy he
    cases hk:gw k j
    ·rw[hk]at h;cases h
    ·rw[hk]at h
     obtain rfl:=Option.some.inj h
     have:=bY hk;subst this
     simp only[Op.eqFields,if_pos hn',Sem.run_bind,nV w ha hx,nV w ha hy,Result.andThen_ok,SV.den,run_equalIn_int w d f.type k k0 _ _ hu]
     simp only[jD,dq,bv,BE.den]
     cases(a.den ρ==b.den ρ)
     ·rfl
     ·simp only[Bool.not_true,Bool.false_eq_true,if_false,if_true]
      exact sE d w he
   ·rename_i a b e' ha hu hx hy he
    obtain rfl:=Option.some.inj h
    simp only[Op.eqFields,if_pos hn',Sem.run_bind,nV w ha hx,nV w ha hy,Result.andThen_ok,SV.den,run_equalIn_bool' w d f.type _ _ hu]
    have ih:=sE (ρ:=ρ) d w he
    rw[jD]
    by_cases hab:a.den ρ=b.den ρ
    ·have e1:(sA a b).den ρ=true:=by simp only[lB,hab,beq_self_eq_true]
     have e2:¬((!(a.den ρ==b.den ρ))=true):=by simp[hab]
     rw[if_neg e2,if_pos e1];exact ih
    ·have e1:¬(sA a b).den ρ=true:=by simp only[lB,beq_iff_eq];exact hab
     have e2:(!(a.den ρ==b.den ρ))=true:=by simp[hab]
     rw[if_pos e2,if_neg e1];rfl
   ·cases h
  ·simp only[hn,cond_true]at h;cases h
def neg(op:BinOp)(e:BE):Option BE:=
 match op with
 |.eql=>some e
 |.neq=>some (dj e)
 |_=>none
def sEq(P:Program)(t:TypeId)(x y:SV):Option BE:=
 match x,y,P.underlying t with
 |.b a,.b c,some .bool=>some (sA a c)
 |.nilp,.nilp,some (.pointer _)=>some (.lit true)
 |.ptr _,.nilp,some (.pointer _)=>some (.lit false)
 |.nilp,.ptr _,some (.pointer _)=>some (.lit false)
 |.nils,.nils,some (.slice _)=>some (.lit true)
 |.sl _ _ _,.nils,some (.slice _)=>some (.lit false)
 |.nilf,.nilf,some (.func _ _ _)=>some (.lit true)
 |.fn _ _ _,.nilf,some (.func _ _ _)=>some (.lit false)
 |.agg xs,.agg ys,some (.struct fs)=>
  bif P.stoodInHeld t||P.eqGuardType P.depth t then none else Wz P xs ys fs.toList
 |_,_,_=>none
theorem WA{P:Program}{t:TypeId}{x y:SV}{e:BE}(h:sEq P t x y=some e)(ρ:ap)(w:World)(d:Nat):(Op.equalIn (d+1+1) t (x.den ρ) (y.den ρ)).run P w=.ok (e.den ρ) w:=by
 unfold sEq at h
 split at h<;>first|(cases h;done)|skip
 ·rename_i hu;obtain rfl:=Option.some.inj h;unfold Op.equalIn;rw[Sem.run_bind,aR w hu,lB];rfl
 iterate 7
  ·rename_i hu;obtain rfl:=Option.some.inj h;unfold Op.equalIn;rw[Sem.run_bind,aR w hu];rfl
 rename_i xs ys fs hu
 cases hs:(P.stoodInHeld t||P.eqGuardType P.depth t)
 ·rw[hs]at h
  simp only[cond_false]at h
  simp only[Bool.or_eq_false_iff]at hs
  have hf:P.fieldsOf t=fs:=by unfold Program.fieldsOf;rw[hu]
  simp only[SV.den,SV.b9]
  rw[run_equalIn_struct w (d+1) t _ _ (by rw[hf];exact hu) hs.1,hf]
  exact sE d w h
 ·rw[hs]at h;cases h
theorem a60{P:Program}{t:TypeId}{x y:SV}{e:BE}(h:sEq P t x y=some e)(ρ:ap)(w:World):(Op.equal t (x.den ρ) (y.den ρ)).run P w=.ok (e.den ρ) w:=
 WA h ρ w 9998
theorem BU{ρ:ap}{b:IE}(h:(F.be (eI .geq b (.lit 0))).holds ρ):¬b.den ρ<0:=by
 simp only[F.holds,dq,bv,IE.den]at h
 have:=of_decide_eq_true h
 omega
def ab5(P:Program)(op:BinOp)(t:TypeId)(x y:SV):Option (List F×SV):=
 match x,y with
 |.int k a,.int j b=>
  match op with
  |.shl=>some ([.be (eI .geq b (.lit 0))],.int k (.shl k a b))
  |.shr=>some ([.be (eI .geq b (.lit 0))],.int k (.shr k a b))
  |_=>bif gw k j then wI op k a b else none
 |_,_=>
  match sEq P t x y with
  |some e=>match neg op e with
   |some r=>some ([],.b r)
   |none=>none
  |none=>none
theorem WB{P:Program}{op:BinOp}{t:TypeId}{x y s:SV}{v:List F}(h:ab5 P op t x y=some (v,s)){ρ:ap}(hv:ar ρ v)(ox oy:Operand)(w:World):
 ((do eqGuard op t ox oy (x.den ρ) (y.den ρ);binOp op t (x.den ρ) (y.den ρ):Sem Value)).run P w=.ok (s.den ρ) w:=by
 unfold ab5 at h
 split at h
 ·rename_i k a j b
  have hg:(eqGuard op t ox oy (SV.den ρ (.int k a)) (SV.den ρ (.int j b))).run P w=.ok () w:=by
   unfold eqGuard;cases op<;>rfl
  rw[Sem.run_bind,hg,Result.andThen_ok]
  split at h
  ·obtain⟨rfl,rfl⟩:=Prod.mk.inj (Option.some.inj h)
   have h1:=BU (aa.1 hv).1
   simp only[SV.den,binOp,Op.shift,if_neg h1,Sem.run_pure,IE.den,n5]
  ·obtain⟨rfl,rfl⟩:=Prod.mk.inj (Option.some.inj h)
   have h1:=BU (aa.1 hv).1
   simp only[SV.den,binOp,Op.shift,if_neg h1,Sem.run_pure,IE.den,Wq]
  ·cases hk:gw k j
   ·rw[hk]at h;cases h
   ·rw[hk]at h
    have:=bY hk;subst this
    exact BT h hv t w
 ·rename_i hni
  split at h
  ·rename_i e he
   split at h
   ·rename_i r hr
    obtain⟨rfl,rfl⟩:=Prod.mk.inj (Option.some.inj h)
    have hrun:=a60 he ρ w
    have hg:(eqGuard op t ox oy (x.den ρ) (y.den ρ)).run P w=.ok () w:=by
     unfold sEq at he
     split at he<;>first
      |(cases he;done)
      |(unfold eqGuard;cases op<;>rfl)
      |skip
     rename_i xs ys fs hu
     cases hs:(P.stoodInHeld t||P.eqGuardType P.depth t)
     ·simp only[Bool.or_eq_false_iff]at hs
      exact run_eqGuard_agg w op t ox oy _ _ hs.2
     ·rw[hs]at he;cases he
    rw[Sem.run_bind,hg,Result.andThen_ok]
    have hb:∀(g:Bool→Bool),binOp op t (x.den ρ) (y.den ρ)=(do pure (.bool (g (←Op.equal t (x.den ρ) (y.den ρ)))))→(binOp op t (x.den ρ) (y.den ρ)).run P w=.ok (.bool (g (e.den ρ))) w:=by
     intro g hg;rw[hg,Sem.run_bind,hrun];rfl
    cases op<;>simp only[neg]at hr<;>first|(cases hr;done)|skip
    ·obtain rfl:=Option.some.inj hr
     refine hb id ?_
     unfold sEq at he
     split at he<;>first|(cases he;done)|rfl
    ·obtain rfl:=Option.some.inj hr
     rw[SV.den,cJ]
     refine hb (! ·) ?_
     unfold sEq at he
     split at he<;>first|(cases he;done)|rfl
   ·cases h
  ·cases h
def sUn(op:UnOp)(x:SV):Option SV:=
 match op,x with
 |.neg,.int k a=>some (.int k (jC k (qG (.lit 0) a)))
 |.xor,.int k a=>some (.int k (.bits .xor k (.lit (if k.signed then -1 else k.max)) a))
 |.not,.b a=>some (.b (dj a))
 |_,_=>none
theorem a61{P:Program}{op:UnOp}{x s:SV}(h:sUn op x=some s)(ρ:ap)(w:World):(Op.unary op (x.den ρ)).run P w=.ok (s.den ρ) w:=by
 unfold sUn at h
 split at h
 ·obtain rfl:=Option.some.inj h;simp[Op.unary,Op.intArith,SV.den,gz,lA,IE.den]
 ·obtain rfl:=Option.some.inj h;simp[Op.unary,Op.intBits,SV.den,IE.den,aQ]
 ·obtain rfl:=Option.some.inj h;simp[Op.unary,SV.den,cJ]
 ·cases h
def WC(P:Program)(src dst:TypeId)(x:SV):Option SV:=
 match P.underlying src,P.underlying dst,x with
 |some (.int _),some (.int k),.int _ a=>some (.int k (jC k a))
 |_,_,_=>none
theorem OE{P:Program}{src dst:TypeId}{x s:SV}(h:WC P src dst x=some s)(ρ:ap)(w:World):(convert src dst (x.den ρ)).run P w=.ok (s.den ρ) w:=by
 unfold WC at h
 split at h
 ·rename_i k0 k j a h1 h2
  obtain rfl:=Option.some.inj h
  simp[convert,aR w h1,aR w h2,SV.den,Conv.intToInt,gz]
 ·cases h
def adz(x:SV)(i:Nat):Option SV:=
 match x with
 |.tup l=>l[i]?
 |_=>none
def phi(c:BE):SV→SV→Option SV
 |.b x,.b y=>some (.b (kS c x y))
 |.int k x,.int j y=>bif gw k j then some (.int k (iR c x y))else none
 |.ptr p,.ptr q=>bif p.eq q then some (.ptr p)else none
 |.nilp,.nilp=>some .nilp
 |.nils,.nils=>some .nils
 |.nilf,.nilf=>some .nilf
 |.sl p n k,.sl q m j=>bif p.eq q then some (.sl p (iR c n m) (iR c k j))else none
 |.lst a,.lst b=>bif Nat.beq a b then some (.lst a)else none
 |.opq a,.opq b=>bif Nat.beq a b then some (.opq a)else none
 |_,_=>none
theorem wJ{ρ:ap}{c:BE}{x y s:SV}(h:phi c x y=some s):s.den ρ=if c.den ρ then x.den ρ else y.den ρ:=by
 unfold phi at h
 split at h
 ·obtain rfl:=Option.some.inj h;simp only[SV.den,jD];split<;>rfl
 ·rename_i k a j b
  cases hk:gw k j
  ·rw[hk]at h;cases h
  ·rw[hk]at h;obtain rfl:=Option.some.inj h;have:=bY hk;subst this;simp only[SV.den,fg];split<;>rfl
 ·rename_i p q
  cases hk:p.eq q
  ·rw[hk]at h;cases h
  ·rw[hk]at h;obtain rfl:=Option.some.inj h;have:=PT.b8 hk;subst this;simp
 ·obtain rfl:=Option.some.inj h;simp
 ·obtain rfl:=Option.some.inj h;simp
 ·obtain rfl:=Option.some.inj h;simp
 ·rename_i p n k q m j
  cases hk:p.eq q
  ·rw[hk]at h;cases h
  ·rw[hk]at h;obtain rfl:=Option.some.inj h;have:=PT.b8 hk;subst this;simp only[SV.den,fg];split<;>rfl
 ·rename_i a b
  cases hk:Nat.beq a b
  ·rw[hk]at h;cases h
  ·rw[hk]at h;obtain rfl:=Option.some.inj h;have:=Nat.eq_of_beq_eq_true hk;subst this;simp
 ·rename_i a b
  cases hk:Nat.beq a b
  ·rw[hk]at h;cases h
  ·rw[hk]at h;obtain rfl:=Option.some.inj h;have:=Nat.eq_of_beq_eq_true hk;subst this;simp
 ·cases h
def kR(c:BE):List SV→List SV→Option (List SV)
 |[],[]=>some []
 |x::xs,y::ys=>match phi c x y,kR c xs ys with
  |some s,some r=>some (s::r)
  |_,_=>none
 |_,_=>none
theorem nW{ρ:ap}{c:BE}:∀{x y l:List SV},kR c x y=some l→l.map (SV.den ρ)=if c.den ρ then x.map (SV.den ρ)else y.map (SV.den ρ)
 |[],[],l,h=>by simp only[kR]at h;obtain rfl:=Option.some.inj h;simp
 |[],y::ys,l,h=>by simp only[kR]at h;cases h
 |x::xs,[],l,h=>by simp only[kR]at h;cases h
 |x::xs,y::ys,l,h=>by
  simp only[kR]at h
  split at h
  ·rename_i s r h1 h2
   obtain rfl:=Option.some.inj h
   simp only[List.map_cons,wJ h1,nW h2]
   split<;>rfl
  ·cases h
def OF(c:BE):SV→SV→Option SV
 |.agg x,.agg y=>(kR c x y).map .agg
 |.tup x,.tup y=>match x,y with
  |[.agg a,s],[.agg b,t]=>match kR c a b,phi c s t with
   |some l,some r=>some (.tup [.agg l,r])
   |_,_=>none
  |x,y=>(kR c x y).map .tup
 |x,y=>phi c x y
theorem BV{ρ:ap}{c:BE}{x y s:SV}(h:OF c x y=some s):s.den ρ=if c.den ρ then x.den ρ else y.den ρ:=by
 unfold OF at h
 split at h
 ·rename_i a b
  cases hp:kR c a b with
  |none=>rw[hp]at h;cases h
  |some l=>rw[hp]at h;obtain rfl:=Option.some.inj h;simp only[SV.den,SV.b9,nW hp];split<;>rfl
 ·split at h
  ·split at h
   ·rename_i l r h1 h2
    obtain rfl:=Option.some.inj h
    simp only[SV.den,SV.b9,List.map_cons,List.map_nil,nW h1,wJ h2];split<;>rfl
   ·cases h
  ·rename_i a b _ _ _
   cases hp:kR c a b with
   |none=>rw[hp]at h;cases h
   |some l=>rw[hp]at h;obtain rfl:=Option.some.inj h;simp only[SV.den,SV.b9,nW hp];split<;>rfl
 ·exact wJ h
end
section
variable [cg] [Fm]
theorem nX:∀(l:List Value) (cs:Array Value) (off k:Nat),(l.zipIdx k).foldl (fun cs (x:Value×Nat)=>cs.setIfInBounds (off+x.2) x.1) cs=cA cs (off+k) l
 |[],cs,off,k=>rfl
 |v::r,cs,off,k=>by
  simp only[List.zipIdx_cons,List.foldl_cons,cA]
  rw[nX r _ off (k+1)]
  rfl
def nY(L:af)(place:Nat→Option (Nat×Nat))(cells:List SV):List (Nat×SV)→Option (List SV)
 |[]=>some cells
 |(i,s)::r=>
  match place i,s.cellsL L with
  |some (off,sz),some l=>
   bif Nat.beq l.length sz&&Nat.ble (off+l.length) cells.length then nY L place (cells.take off++(l++cells.drop (off+l.length))) r else none
  |_,_=>none
theorem lE{C:bp}{ρ:ap}{L:af}{w:World}(H:HD C ρ L w){place:Nat→Option (Nat×Nat)}:∀{ps:List (Nat×SV)} {cells l:List SV},nY L place cells ps=some l→
 Instr.fill place (cells.map (SV.den ρ)).toArray (ps.map fun x=>(x.1,x.2.den ρ))=some (l.map (SV.den ρ)).toArray
 |[],cells,l,h=>by simp only[nY]at h;obtain rfl:=Option.some.inj h;rfl
 |(i,s)::r,cells,l,h=>by
  simp only[nY]at h
  split at h
  ·rename_i off sz cl hp hc
   cases hb:(Nat.beq cl.length sz&&Nat.ble (off+cl.length) cells.length)
   ·rw[hb]at h;cases h
   ·rw[hb]at h
    simp only[cond_true]at h
    simp only[Bool.and_eq_true]at hb
    have hsz:=Nat.eq_of_beq_eq_true hb.1
    have hle:=Nat.le_of_ble_eq_true hb.2
    subst hsz
    have hd:=SV.jJ H hc
    simp only[List.map_cons,Instr.fill,hp,hd,List.size_toArray,List.length_map]
    have hcond:(decide ¬cl.length=cl.length||decide (off+cl.length>cells.length))=false:=by simp;omega
    rw[if_neg (by simp;omega)]
    rw[←lE H h]
    congr 1
    rw[←Array.foldl_toList]
    have:=nX (cl.map (SV.den ρ)) (cells.map (SV.den ρ)).toArray off 0
    rw[Nat.add_zero,gC ρ cells cl off hle]at this
    rw[←this]
    congr 1
    simp[Array.toList_zipIdx]
  ·cases h
def WD(P:Program):List Field→Option (List (Nat×Nat))
 |[]=>some []
 |f::r=>match eZ P f.type,WD P r with
  |some z,some l=>some ((f.offset,z)::l)
  |_,_=>none
theorem BW{P:Program}(w:World):∀{fs:List Field} {l:List (Nat×Nat)},WD P fs=some l→
 (fs.mapM (m:=Sem) fun f=>do pure (f.offset,←sizeOf f.type)).run P w=.ok l w
 |[],l,h=>by simp only[WD]at h;obtain rfl:=Option.some.inj h;simp
 |f::r,l,h=>by
  simp only[WD]at h
  split at h
  ·rename_i z l' h1 h2
   obtain rfl:=Option.some.inj h
   simp only[List.mapM_cons,Sem.run_bind,bC w h1,Result.andThen_ok,Sem.run_pure,BW w h2]
  ·cases h
def j2(v:Value):List SV:=v.cells.toList.map kT
theorem nZ(ρ:ap)(v:Value):((j2 v).map (SV.den ρ)).toArray=v.cells:=by
 rw[←SV.b9,j2,qH,Array.toArray_toList]
def H8(P:Program)(L:af)(t:TypeId)(ps:List (Nat×SV)):Option SV:=
 match sC P t,P.underlying t with
 |some z,some (.struct fs)=>
  match WD P fs.toList with
  |some pl=>(nY L (fun i=>pl[i]?) (j2 z) ps).map .agg
  |none=>none
 |some z,some (.array _ el)=>
  match eZ P el with
  |some k=>(nY L (fun i=>some (i*k,k)) (j2 z) ps).map .agg
  |none=>none
 |_,_=>none
theorem H9{P:Program}{C:bp}{ρ:ap}{L:af}{w:World}(H:HD C ρ L w){t:TypeId}{ps:List (Nat×SV)}{s:SV}(h:H8 P L t ps=some s):
 (Instr.build t (ps.map fun x=>(x.1,x.2.den ρ)).toArray).run P w=.ok (s.den ρ) w:=by
 unfold H8 at h
 split at h
 ·rename_i z fs hz hu
  split at h
  ·rename_i pl hp
   cases hf:nY L (fun i=>pl[i]?) (j2 z) ps with
   |none=>rw[hf]at h;cases h
   |some l=>
    rw[hf]at h
    obtain rfl:=Option.some.inj h
    have hr:=lE H hf
    rw[nZ]at hr
    have hm:(fs.mapM (m:=Sem) fun f=>do pure (f.offset,←sizeOf f.type)).run P w=.ok pl.toArray w:=by
     rw[←Array.toArray_toList (xs:=fs)]
     rw[List.mapM_toArray]
     simp only[Sem.run_map,BW w hp,Result.andThen_ok]
    simp only[Instr.build,Sem.run_bind,gb w hz,aR w hu,Result.andThen_ok,hm]
    have he:(fun i:Nat=>pl.toArray[i]?)=fun i:Nat=>pl[i]? :=by funext i;simp
    simp only[he,hr,Sem.run_pure,SV.den,SV.b9]
  ·cases h
 ·rename_i z n el hz hu
  split at h
  ·rename_i k hk
   cases hf:nY L (fun i=>some (i*k,k)) (j2 z) ps with
   |none=>rw[hf]at h;cases h
   |some l=>
    rw[hf]at h
    obtain rfl:=Option.some.inj h
    have hr:=lE H hf
    rw[nZ]at hr
    simp only[Instr.build,Sem.run_bind,gb w hz,aR w hu,bC w hk,Result.andThen_ok,hr,Sem.run_pure,SV.den,SV.b9]
  ·cases h
 ·cases h
def ab7(P:Program)(L:af)(t:TypeId)(x:SV):Option SV:=
 match P.underlying t,x with
 |some (.slice _),.sl _ n _=>some (.int .i64 (bf n))
 |some (.slice _),.nils=>some (.int .i64 (.lit 0))
 |some (.slice _),.lst id=>match ai (.h id) L with
  |some (.row _ (.lst _ _ n _))=>some (.int .i64 (bf n))
  |_=>none
 |some (.array n _),_=>some (.int .i64 (.lit n))
 |_,_=>none
theorem WE{P:Program}{C:bp}{ρ:ap}{L:af}{w:World}(H:HD C ρ L w){t:TypeId}{x s:SV}(h:ab7 P L t x=some s)(ts:Array TypeId)(ty:TypeId)(ht:ts[0]? =some t):
 (Builtin.len_ ts ty #[x.den ρ]).run P w=.ok (s.den ρ) w:=by
 unfold ab7 at h
 split at h
 ·rename_i e p n c hu;obtain rfl:=Option.some.inj h
  simp[Builtin.len_,ht,aR w hu,SV.den,aP,goInt]
 ·rename_i e hu;obtain rfl:=Option.some.inj h
  simp[Builtin.len_,ht,aR w hu,SV.den,IE.den,goInt]
 ·rename_i e id hu
  split at h
  ·rename_i o el ks n le hl
   obtain rfl:=Option.some.inj h
   have hh:=H.rows id o _ hl
   have hv:∃a c,ρ.x id=.slice a (n.den ρ).toNat c:=by
    cases hb:ρ.b id
    ·obtain⟨h0,hx⟩:=hh.1 hb
     rcases hx with hx|⟨_,a,c,hx⟩<;>rw[hx,h0]<;>exact⟨_,_,rfl⟩
    ·obtain⟨cs,c,hx,_⟩:=hh.2 hb
     exact⟨_,_,hx⟩
   obtain⟨a,c,hx⟩:=hv
   simp[Builtin.len_,ht,aR w hu,SV.den,aP,hx,goInt]
  ·cases h
 ·rename_i n el hu;obtain rfl:=Option.some.inj h
  simp[Builtin.len_,ht,aR w hu,SV.den,IE.den,goInt]
 ·cases h
def sMx(mx:Bool)(k:IntKind):IE→List SV→Option IE
 |a,[]=>some a
 |a,.int j b::r=>bif gw k j then sMx mx k (if mx then a5w a b else a5x a b) r else none
 |_,_=>none
def sMM(mx:Bool):List SV→Option SV
 |.int k a::r=>(sMx mx k a r).map (.int k)
 |_=>none
theorem MQ{P:Program}{ρ:ap}(w:World){k:IntKind}:∀{l:List SV} {a e:IE} {mx:Bool},sMx mx k a l=some e→
 ((l.map (SV.den ρ)).foldlM (if mx then Builtin.max2 else Builtin.min2) (.int k (a.den ρ))).run P w=.ok (.int k (e.den ρ)) w
 |[],a,e,mx,h=>by simp only[sMx]at h;obtain rfl:=Option.some.inj h;rfl
 |s::r,a,e,mx,h=>by
  cases s with
  |int j b=>
   simp only[sMx]at h
   cases hk:gw k j
   ·rw[hk]at h;cases h
   ·rw[hk]at h
    have:=bY hk;subst this
    simp only[cond_true]at h
    have ih:=MQ (P:=P) (ρ:=ρ) w h
    cases mx
    ·simp only[Bool.false_eq_true,if_false]at ih h⊢
     simp only[List.map_cons,List.foldlM_cons,Sem.run_bind,SV.den,Builtin.min2,Sem.run_pure,Result.andThen_ok]
     rw[BN]at ih;exact ih
    ·simp only[if_true]at ih h⊢
     simp only[List.map_cons,List.foldlM_cons,Sem.run_bind,SV.den,Builtin.max2,Sem.run_pure,Result.andThen_ok]
     rw[BM]at ih;exact ih
  |_=>simp only[sMx]at h;cases h
theorem MR{P:Program}{ρ:ap}(w:World){l:List SV}{s:SV}{mx:Bool}(h:sMM mx l=some s)(ts:Array TypeId)(ty:TypeId):
 ((if mx then Builtin.max_ ts ty (l.map (SV.den ρ)).toArray else Builtin.min_ ts ty (l.map (SV.den ρ)).toArray)).run P w=.ok (s.den ρ) w:=by
 cases l with
 |nil=>simp only[sMM]at h;cases h
 |cons x r=>
  cases x with
  |int k a=>
   simp only[sMM]at h
   cases hx:sMx mx k a r with
   |none=>rw[hx]at h;cases h
   |some e=>
    rw[hx]at h
    obtain rfl:=Option.some.inj h
    have:=MQ (P:=P) (ρ:=ρ) w hx
    cases mx
    ·simpa [Builtin.min_,SV.den] using this
    ·simpa [Builtin.max_,SV.den] using this
  |_=>simp only[sMM]at h;cases h
end
section
variable [cg] [Fm]
def fS(w:World)(e:TypeId)(z N:Nat)(V:Nat→Nat→Option Value)(b:Bool)(k off:Nat)(x:Value):Prop:=
 (b=false→N=0∧(x=.slice none 0 0∨(e=0∧∃a c,x=.slice a 0 c)))∧
 (b=true→∃(cs:Array Value) (c:Nat),x=.slice (some ⟨k,off,none⟩) N c∧lay e w k cs∧(e=0∨off+c*z≤cs.size)∧N≤c∧∀i,i<N→∀(j:Nat) (v:Value),V i j=some v→cs[off+i*z+j]? =some v)
def n8(ρ:ap)(ks:List CK)(le:Nat→Nat→Int):Nat→Nat→Option Value:=fun i j=>(ks[j]?).map fun k=>k.v ρ i (le i j)
theorem bz(ρ:ap)(id:Nat)(w:World)(e:TypeId)(ks:List CK)(n:IE)(le:LE):
 (am.lst e ks n le).holds ρ id w↔fS w e ks.length (n.den ρ).toNat (n8 ρ ks (le.den ρ)) (ρ.b id) (ρ.k id) (ρ.f id 0) (ρ.x id):=by
 unfold fS n8
 simp only[am.holds]
 refine and_congr Iff.rfl (imp_congr Iff.rfl ⟨?_,?_⟩)
 ·rintro⟨cs,c,h1,h2,h3,h4,h5⟩
  refine⟨cs,c,h1,h2,h3,h4,fun i hi j v hv=>?_⟩
  cases hk:ks[j]? with
  |none=>rw[hk]at hv;cases hv
  |some k=>rw[hk]at hv;obtain rfl:=Option.some.inj hv;exact h5 i hi j k hk
 ·rintro⟨cs,c,h1,h2,h3,h4,h5⟩
  exact⟨cs,c,h1,h2,h3,h4,fun i hi j k hk=>h5 i hi j _ (by rw[hk];rfl)⟩
theorem dg{b:Nat}{e:TypeId}{f:Nat×Nat}:∀(vs:List Value) (o:Nat) (w:World) (cs:Array Value),w.heap[b]? =some (.cells cs e f)→w.setCells b o vs=fh w b (.cells (cA cs o vs) e f)
 |[],o,w,cs,h=>by simp only[World.setCells,cA,uK w b _ h]
 |v::r,o,w,cs,h=>by
  simp only[World.setCells,cA]
  rw[qI h,dg r (o+1) _ _ (bG _ _ _ (aw h)),pZ]
structure BX (w w':World) (k:Nat→Prop):Prop where
 os:w'.os=w.os
 tape:w'.tape=w.tape
 output:w'.output=w.output
 size:w.heap.size≤w'.heap.size
 heap:∀b,b<w.heap.size→¬k b→w'.heap[b]? =w.heap[b]?
section
variable {P : Program} {w : World} {e : TypeId} {i : TypeInfo} {zv : Value}
theorem nA(t tx ty:TypeId)(ht:P.underlying t=some (.slice e))(hi:P.info? e=some i)(hz:i.zero=some zv)(hzs:zv.cells.size=i.size)(he:Nat.beq e 0=false)
 {N:Nat} {V:Nat→Nat→Option Value} (hV:∀r j,r<N→((V r j).isSome=true↔j<i.size)) {b:Bool} {k off:Nat} {x:Value} (h:fS w e i.size N V b k off x) {y:Value} {n:Nat} {news:List Value} (hs:Src P i.size tx y n news w)
 (hmax:N+n≤4294967296) (hby:i.bytes≤16384):
 ∃(b':Bool) (k' off':Nat) (x':Value) (w':World),(Builtin.append_ #[t,tx] ty #[x,y]).run P w=.ok x' w'∧
  fS w' e i.size (N+n) (fun r j=>if r<N then V r j else if j<i.size then news[(r-N)*i.size+j]? else none) b' k' off' x'∧
  (b'=true→(b=true∧k'=k)∨w.heap.size≤k')∧BX w w' (fun c=>b=true∧c=k):=by
 have he0:¬e=0:=fun h=>by subst h;cases he
 have hfit:(N+n)*i.bytes≤140737488355328:=Nat.le_trans (Nat.mul_le_mul hmax hby) (by decide)
 have hml:N+n≤maxLen:=by unfold maxLen;omega
 have hnl:=hs.newsLen
 have grow:∀(base:Option Addr) (cap:Nat) (olds:List Value),olds.length=N*i.size→(∀r j v,r<N→V r j=some v→olds[r*i.size+j]? =some v)→
  (Builtin.firstCells i.size N (.slice base N cap)).run P w.drew=.ok olds.toArray w.drew→cap<N+n→x=.slice base N cap→
  ∃(b':Bool) (k' off':Nat) (x':Value) (w':World),(Builtin.append_ #[t,tx] ty #[x,y]).run P w=.ok x' w'∧
  fS w' e i.size (N+n) (fun r j=>if r<N then V r j else if j<i.size then news[(r-N)*i.size+j]? else none) b' k' off' x'∧
  (b'=true→(b=true∧k'=k)∨w.heap.size≤k')∧BX w w' (fun c=>b=true∧c=k):=by
  intro base cap olds hol hov hold hg hx
  subst hx
  have hrun:=run_append_grow_src (P:=P) w t tx ty e i zv ht hi hz base N cap olds hold y n news hs hg (by omega) (growslice_fits hg hfit)
  have hge:=grownCap_ge w (N+n) cap e
  refine⟨true,w.heap.size,0,_,_,hrun,⟨fun h=>(by cases h),fun _=>⟨(olds++news).toArray++Builtin.zeroCells zv.cells (grownCap w (N+n) cap e-(N+n)),_,rfl,.inl ?_,.inr ?_,hge,fun r hr j v hv=>?_⟩⟩,fun _=> .inr (Nat.le_refl _),⟨rfl,rfl,rfl,by simp,fun c hc _=>Below.heap_alloc w.drew _ c hc⟩⟩
  ·show(w.heap.push _)[w.heap.size]? =_
   rw[Array.getElem?_push_size]
  ·rw[Array.size_append,List.size_toArray,size_zeroCells,hzs,List.length_append,hol,hnl,←Nat.add_mul,←Nat.add_mul]
   rw[show N+n+(grownCap w (N+n) cap e-(N+n))=grownCap w (N+n) cap e by omega,Nat.zero_add]
   exact Nat.le_refl _
  ·have hv:(if r<N then V r j else if j<i.size then news[(r-N)*i.size+j]? else none)=some v:=hv
   have key:∀q,q<(N+n)*i.size→((olds++news).toArray++Builtin.zeroCells zv.cells (grownCap w (N+n) cap e-(N+n)))[q]? =(olds++news)[q]? :=by
    intro q hq
    rw[Array.getElem?_append_left (by rw[List.size_toArray,List.length_append,hol,hnl,←Nat.add_mul];exact hq),List.getElem?_toArray]
   have hlt:j<i.size:=by
    by_cases hr2:r<N
    ·rw[if_pos hr2]at hv;exact(hV r j hr2).1 (by rw[hv];rfl)
    ·rw[if_neg hr2]at hv
     by_cases hj:j<i.size
     ·exact hj
     ·rw[if_neg hj]at hv;cases hv
   have hq:r*i.size+j<(N+n)*i.size:=by
    have:=Nat.mul_le_mul_right i.size (show r+1≤N+n by omega)
    rw[Nat.add_mul,Nat.one_mul]at this;omega
   rw[Nat.zero_add,key _ hq]
   by_cases hr2:r<N
   ·rw[if_pos hr2]at hv
    rw[List.getElem?_append_left]
    ·exact hov r j v hr2 hv
    ·rw[hol]
     have:=Nat.mul_le_mul_right i.size (show r+1≤N by omega)
     rw[Nat.add_mul,Nat.one_mul]at this;omega
   ·rw[if_neg hr2,if_pos hlt]at hv
    have hle:=Nat.mul_le_mul_right i.size (show N≤r by omega)
    rw[List.getElem?_append_right (by rw[hol];omega),hol,←hv]
    congr 1
    rw[Nat.sub_mul];omega
 cases b with
 |false=>
  obtain⟨h0,hx⟩:=h.1 rfl
  have hx:x=.slice none 0 0:=hx.resolve_right fun h=>he0 h.1
  subst h0
  by_cases hn:n=0
  ·subst hn
   have hnews:news=[]:=List.eq_nil_of_length_eq_zero (by rw[hnl];simp)
   subst hnews
   refine⟨false,0,0,_,_,by rw[hx];exact run_append_nothing w t tx ty e i ht hi none 0 0 (Nat.le_refl _) y hs,⟨fun _=>⟨rfl,.inl rfl⟩,fun h=>(by cases h)⟩,fun h=>(by cases h),⟨rfl,rfl,rfl,Nat.le_refl _,fun _ _ _=>rfl⟩⟩
  ·exact grow none 0 [] (by simp) (fun r j v hr _=>absurd hr (by omega)) (run_firstCells_none w.drew i.size 0 0 0) (by omega) hx
 |true=>
  obtain⟨cs,c,hx,hl,hsz,hNc,hget⟩:=h.2 rfl
  have hl:=hl.get he
  have hsz:=hsz.resolve_left he0
  by_cases hroom:N+n≤c
  ·subst hx
   have hmul:=Nat.mul_le_mul_right i.size hroom
   rw[Nat.add_mul]at hmul
   have hsome:∀j,j<news.length→(w.cell? ⟨k,off+N*i.size+j,none⟩).isSome=true:=by
    intro j hj
    rw[de hl,Array.getElem?_eq_getElem (by omega)];rfl
   have hf:∀j,j<news.length→w.frozen? ⟨k,off+N*i.size+j,none⟩=false:=by
    intro j hj;simp[World.frozen?,hl]
   have hrun:=run_append_room_src (P:=P) w t tx ty e i ht hi k off N c y n news hs hroom hsome hf
   rw[dg news _ w cs hl]at hrun
   refine⟨true,k,off,_,_,hrun,⟨fun h=>(by cases h),fun _=>⟨cA cs (off+N*i.size) news,c,rfl,.inl (bG _ _ _ (aw hl)),.inr (by rw[cC];exact hsz),hroom,fun r hr j v hv=>?_⟩⟩,fun _=> .inl ⟨rfl,rfl⟩,
    ⟨rfl,rfl,rfl,by rw[lC];exact Nat.le_refl _,fun b hb hk=>er _ _ _ fun e=>hk ⟨rfl,e⟩⟩⟩
   have hv:(if r<N then V r j else if j<i.size then news[(r-N)*i.size+j]? else none)=some v:=hv
   rw[df _ _ _ (by omega)]
   by_cases hr2:r<N
   ·rw[if_pos hr2]at hv
    have hj:=(hV r j hr2).1 (by rw[hv];rfl)
    have:=Nat.mul_le_mul_right i.size (show r+1≤N by omega)
    rw[Nat.add_mul,Nat.one_mul]at this
    rw[if_neg (by omega)]
    exact hget r hr2 j v hv
   ·rw[if_neg hr2]at hv
    by_cases hj:j<i.size
    ·rw[if_pos hj]at hv
     have h1:=Nat.mul_le_mul_right i.size (show N≤r by omega)
     have h2:=Nat.mul_le_mul_right i.size (show r+1≤N+n by omega)
     rw[Nat.add_mul,Nat.one_mul,Nat.add_mul]at h2
     rw[if_pos ⟨by omega,by omega⟩,←hv]
     congr 1
     rw[Nat.sub_mul];omega
    ·rw[if_neg hj]at hv;cases hv
  ·have hmulN:=Nat.mul_le_mul_right i.size hNc
   refine grow (some ⟨k,off,none⟩) c ((List.range (N*i.size)).map fun q=>(cs[off+q]?).getD default) (by simp) (fun r j v hr hv=>?_) ?_ (by omega) hx
   ·have hj:=(hV r j hr).1 (by rw[hv];rfl)
    have:=Nat.mul_le_mul_right i.size (show r+1≤N by omega)
    rw[Nat.add_mul,Nat.one_mul]at this
    rw[List.getElem?_map,List.getElem?_range (by omega)]
    have:=hget r hr j v hv
    rw[Nat.add_assoc]at this
    simp only[Option.map_some,this,Option.getD_some]
   ·refine run_firstCells_some w.drew i.size N ⟨k,off,none⟩ N c _ (by simp) fun j v hv=>?_
    rw[List.getElem?_map]at hv
    cases hq:(List.range (N*i.size))[j]? with
    |none=>rw[hq]at hv;cases hv
    |some q=>
     rw[hq]at hv
     obtain⟨hjl,hjq⟩:=List.getElem?_eq_some_iff.1 hq
     rw[List.getElem_range]at hjq
     subst hjq
     obtain rfl:=Option.some.inj hv
     have hj2:j<N*i.size:=by simpa using hjl
     rw[ba]
     show w.cell? _=_
     have hg2:cs[off+j]? =some cs[off+j]:=Array.getElem?_eq_getElem (by omega)
     rw[de hl]
     simp only[hg2,Option.getD_some]
end
end
section
variable [cg] [Fm]
theorem HD.lay{C:bp}{ρ ρ':ap}{L:af}{w w':World}(H:HD C ρ L w){K:Nat→Prop}(hK:∀b,K b→¬C.keep b∧∀i p s,ai (.h i) L=some (.row p s)→¬s.owns ρ i b)(st:BX w w' K)
 {n:Nat} (hL:af.avo n (n+1) L=true) (hag:b7 n (n+1) ρ ρ') {r:am} (hh:r.holds ρ' n w') (hown:∀b,r.owns ρ' n b→K b∨w.heap.size≤b):HD C ρ' ((.h n,.row true r)::L) w':=by
 have H':=H.agr hag hL
 have ow:∀{i p s},ai (.h i) L=some (.row p s)→∀b,s.owns ρ' i b↔s.owns ρ i b:=by
  intro i p s hl b
  have:=af.al hL hl
  exact am.ce hag this.1 this.2 b
 refine H'.step st.os st.tape st.output st.size (fun b hb=>st.heap b (H'.keep_lt hb) fun hk=>(hK b hk).1 hb)
  (fun i p s hi hs b hb=>st.heap b (H'.lt hs hb) fun hk=>(hK b hk).2 i p s hs ((ow hs b).1 hb)) hh (fun _ b hb hk=>?_) (fun h=>by cases h) (fun i p s hi hs _ b hb hc=>?_)
 ·rcases hown b hb with h|h
  ·exact(hK b h).1 hk
  ·have:=H'.keep_lt hk;omega
 ·rcases hown b hb with h|h
  ·exact(hK b h).2 i p s hs ((ow hs b).1 hc)
  ·have:=H'.lt hs hc;omega
def aW(ρ:ap)(n:Nat)(b:Bool)(k off:Nat)(x:Value)(l:Nat→Nat→Int):ap:=
 {ρ with f:=fun v=>if v=n then fun _=>off else ρ.f v,b:=fun v=>if v=n then b else ρ.b v,k:=fun v=>if v=n then k else ρ.k v,x:=fun v=>if v=n then x else ρ.x v,l:=fun v=>if v=n then l else ρ.l v}
theorem et(ρ:ap)(n:Nat)(b:Bool)(k off:Nat)(x:Value)(l:Nat→Nat→Int):b7 n (n+1) ρ (aW ρ n b k off x l):=by
 constructor<;>intro v hv<;>first|rfl|(simp only[aW];rw[if_neg (by omega)])
def bm:List CK→Bool
 |[]=>true
 |.int _::r=>bm r
 |.bool::r=>bm r
 |.byte::r=>bm r
 |_::_=>false
theorem o0{ks:List CK}(h:bm ks=true):∀(j:Nat) (k:CK),ks[j]? =some k→∀(ρ σ:ap) (i i':Nat) (n:Int),k.v ρ i n=k.v σ i' n:=by
 induction ks with
 |nil=>intro j k hk;simp at hk
 |cons a r ih=>
  intro j k hk ρ σ i i' n
  cases j with
  |zero=>
   obtain rfl:=Option.some.inj hk
   cases a<;>first|rfl|(simp only[bm]at h;cases h)
  |succ j=>
   have:bm r=true:=by cases a<;>simp only[bm]at h<;>first|exact h|cases h
   exact ih this j k (by simpa using hk) ρ σ i i' n
def kOf:SV→Option CK
 |.int k _=>some (.int k)
 |.b _=>some .bool
 |_=>none
def pw:List SV→Option (List CK)
 |[]=>some []
 |s::r=>match kOf s,pw r with
  |some k,some l=>some (k::l)
  |_,_=>none
def jK(id:Option Nat):af:=match id with|some id=>[(.h id,.gone)]|none=>[]
def sF(L:af)(e:TypeId)(ks0:List CK)(n:Nat)(s:SV):Option (Option Nat×List CK×IE×LE):=
 match s with
 |.nils=>some (none,ks0,.lit 0,.var 0)
 |.lst id=>match ai (.h id) L with
  |some (.row true (.lst e' ks m le))=>bif Nat.beq e e' then some (some id,ks,m,le)else none
  |_=>none
 |.sl (.at id 0) (.lit (.ofNat 0)) (.lit (.ofNat 0))=>match ai (.h id) L with
  |some (.row true (.cells e' []))=>bif Nat.beq e e' then some (some id,ks0,.lit 0,.var 0)else none
  |_=>none
 |_=>none
theorem o4(ρ:ap)(ks:List CK)(le:Nat→Nat→Int)(r j:Nat):((n8 ρ ks le r j).isSome=true↔j<ks.length):=by
 unfold n8
 rw[Option.isSome_map]
 rcases Nat.lt_or_ge j ks.length with h|h
 ·rw[List.getElem?_eq_getElem h];simp[h]
 ·rw[List.getElem?_eq_none h];simp;exact h
theorem a62{C:bp}{ρ:ap}{L:af}{w:World}(H:HD C ρ L w){e:TypeId}(he:Nat.beq e 0=false){ks0:List CK}{n:Nat}{s:SV}{id:Option Nat}{ks:List CK}{m:IE}{le:LE}(h:sF L e ks0 n s=some (id,ks,m,le)):
 ∃(b:Bool) (k off:Nat),fS w e ks.length (m.den ρ).toNat (n8 ρ ks (le.den ρ)) b k off (s.den ρ)∧
  (b=true→∃i,id=some i∧¬C.keep k∧∀j p t,j≠i→ai (.h j) L=some (.row p t)→¬t.owns ρ j k):=by
 unfold sF at h
 split at h
 ·simp only[Option.some.injEq,Prod.mk.injEq]at h;obtain⟨rfl,rfl,rfl,rfl⟩:=h
  exact⟨false,0,0,⟨fun _=>⟨rfl,.inl rfl⟩,fun h=>by cases h⟩,fun h=>by cases h⟩
 ·rename_i i
  split at h
  ·rename_i e' ks' m' le' hl
   cases hb:Nat.beq e e'
   ·rw[hb]at h;cases h
   ·rw[hb]at h
    simp only[cond_true,Option.some.injEq,Prod.mk.injEq]at h;obtain⟨rfl,rfl,rfl,rfl⟩:=h
    have:=Nat.eq_of_beq_eq_true hb;subst this
    refine⟨ρ.b i,ρ.k i,(ρ.f i 0),(bz ρ i w e ks' m' le').1 (H.rows i true _ hl),fun hb'=>⟨i,rfl,H.own i _ hl _ ⟨hb',rfl⟩,fun j p t hj ht=>H.apart (fun e=>hj e.symm) hl ht (.inl rfl) ⟨hb',rfl⟩⟩⟩
  ·cases h
 ·rename_i i
  split at h
  ·rename_i e' hl
   cases hb:Nat.beq e e'
   ·rw[hb]at h;cases h
   ·rw[hb]at h
    simp only[cond_true,Option.some.injEq,Prod.mk.injEq]at h;obtain⟨rfl,rfl,rfl,rfl⟩:=h
    have:=Nat.eq_of_beq_eq_true hb;subst this
    have hh:=H.rows i true _ hl
    simp only[am.holds,List.map_nil]at hh
    refine⟨true,ρ.k i,0,⟨fun h=>(by cases h),fun _=>⟨#[],0,rfl,.inl hh,.inr (by simp),Nat.le_refl _,fun r hr=>absurd hr (by simp[IE.den])⟩⟩,fun _=>⟨i,rfl,H.own i _ hl _ rfl,fun j p t hj ht=>H.apart (fun e=>hj e.symm) hl ht (.inl rfl) rfl⟩⟩
  ·cases h
 ·cases h
inductive cT where
 |one (l:List SV)
 |row (m:IE) (le:LE) (ks:List CK)
 |nothing
def sG(L:af)(z:Nat)(s:SV):Option cT:=
 match s with
 |.nils=>some .nothing
 |.sl (.at id 0) (.lit (.ofNat 1)) _=>match ai (.h id) L with
  |some (.row _ (.cells _ l))=>bif Nat.beq l.length z&&l.all (SV.one L)then some (.one l)else none
  |_=>none
 |.lst id=>match ai (.h id) L with
  |some (.row _ (.lst e ks m le))=>bif !(Nat.beq e 0)&&bm ks then some (.row m le ks)else none
  |_=>none
 |_=>none
theorem agm{ks:List CK}(h:bm ks=true){j:Nat}{k:CK}(hk:ks[j]? =some k)(ρ:ap)(i:Nat)(n:Int):(k.v ρ i n).oneCell'=true:=by
 have:∀{ks:List CK},bm ks=true→∀(j:Nat) (k:CK),ks[j]? =some k→(k.v ρ i n).oneCell'=true:=by
  intro ks
  induction ks with
  |nil=>intro _ j k hk;simp at hk
  |cons a r ih=>
   intro h j k hk
   cases j with
   |zero=>
    obtain rfl:=Option.some.inj hk
    cases a<;>first|rfl|(simp only[bm]at h;cases h)
   |succ j=>
    have:bm r=true:=by cases a<;>simp only[bm]at h<;>first|exact h|cases h
    exact ih this j k (by simpa using hk)
 exact this h j k hk
def cT.n(ρ:ap):cT→Nat
 |.one _=>1
 |.row m _ _=>(m.den ρ).toNat
 |.nothing=>0
def cT.told(ρ:ap)(z:Nat)(news:List Value):cT→Prop
 |.one l=>news=l.map (SV.den ρ)
 |.row m le ks=>∀r j,r<(m.den ρ).toNat→j<z→news[r*z+j]? =n8 ρ ks (le.den ρ) r j
 |.nothing=>True
theorem OG{P:Program}{C:bp}{ρ:ap}{L:af}{w:World}(H:HD C ρ L w){z:Nat}{tx e':TypeId}(htx:P.underlying tx=some (.slice e')){s:SV}{br:cT}(h:sG L z s=some br)(hz:∀m le ks,br=.row m le ks→ks.length=z):
 ∃news:List Value,Src P z tx (s.den ρ) (br.n ρ) news w∧br.told ρ z news:=by
 unfold sG at h
 split at h
 ·obtain rfl:=Option.some.inj h
  exact⟨[],Src.ofNil w htx 0,trivial⟩
 ·rename_i id cap
  split at h
  ·rename_i o e l hl
   cases hb:(Nat.beq l.length z&&l.all (SV.one L))
   ·rw[hb]at h;cases h
   ·rw[hb]at h
    obtain rfl:=Option.some.inj h
    simp only[Bool.and_eq_true]at hb
    have hlz:=Nat.eq_of_beq_eq_true hb.1
    have hh:=H.rows id o _ hl
    simp only[am.holds]at hh
    refine⟨l.map (SV.den ρ),?_,rfl⟩
    refine Src.ofSlice w htx _ 1 _ _ (by simp[hlz]) (fun j u hu=>?_) (fun u hu=>?_)
    ·simp only[PT.addr,ba,Nat.zero_add]
     rw[de hh,List.getElem?_toArray];exact hu
    ·obtain⟨x,hx,rfl⟩:=List.mem_map.1 hu
     exact SV.wG H (List.all_eq_true.1 hb.2 x hx)
  ·cases h
 ·rename_i id
  split at h
  ·rename_i o e ks m le hl
   cases hb:(!(Nat.beq e 0)&&bm ks)
   ·rw[hb]at h;cases h
   ·rw[hb]at h
    obtain rfl:=Option.some.inj h
    simp only[Bool.and_eq_true,Bool.not_eq_true']at hb
    have hkz:=hz m le ks rfl
    subst hkz
    have hh:=(bz ρ id w e ks m le).1 (H.rows id o _ hl)
    have he0:¬e=0:=fun h=>by subst h;cases hb.1
    cases hbb:ρ.b id with
    |false=>
     obtain⟨h0,hx⟩:=hh.1 hbb
     have hx:=hx.resolve_right fun h=>he0 h.1
     refine⟨[],?_,fun r j hr=>by rw[h0]at hr;omega⟩
     simp only[SV.den,hx,cT.n,h0]
     exact Src.ofNil w htx 0
    |true=>
     obtain⟨cs,c,hx,hlay,hsz,hNc,hget⟩:=hh.2 hbb
     have hlay:=hlay.get hb.1
     have hsz:=hsz.resolve_left he0
     have hmul:=Nat.mul_le_mul_right ks.length hNc
     have news:∀r j,r<(m.den ρ).toNat→j<ks.length→((List.range ((m.den ρ).toNat*ks.length)).map fun q=>(cs[(ρ.f id 0)+q]?).getD undef)[r*ks.length+j]? =n8 ρ ks (le.den ρ) r j:=by
      intro r j hr hj
      have h1:=Nat.mul_le_mul_right ks.length (show r+1≤(m.den ρ).toNat by omega)
      rw[Nat.add_mul,Nat.one_mul]at h1
      rw[List.getElem?_map,List.getElem?_range (by omega)]
      have hs:=(o4 ρ ks (le.den ρ) r j).2 hj
      obtain⟨v,hv⟩:=Option.isSome_iff_exists.1 hs
      have h2:=hget r hr j v hv
      rw[Nat.add_assoc]at h2
      simp only[Option.map_some,h2,Option.getD_some,hv]
     refine⟨_,?_,news⟩
     simp only[SV.den,hx,cT.n]
     refine Src.ofSlice w htx _ _ c _ (by simp) (fun j u hu=>?_) (fun u hu=>?_)
     ·rw[List.getElem?_map]at hu
      cases hq:(List.range ((m.den ρ).toNat*ks.length))[j]? with
      |none=>rw[hq]at hu;cases hu
      |some q=>
       rw[hq]at hu
       obtain⟨hjl,hjq⟩:=List.getElem?_eq_some_iff.1 hq
       rw[List.getElem_range]at hjq
       subst hjq
       obtain rfl:=Option.some.inj hu
       have hj2:j<(m.den ρ).toNat*ks.length:=by simpa using hjl
       have hg2:cs[(ρ.f id 0)+j]? =some cs[(ρ.f id 0)+j]:=Array.getElem?_eq_getElem (by omega)
       rw[ba,de hlay]
       simp only[hg2,Option.getD_some]
     ·obtain⟨q,hq,rfl⟩:=List.mem_map.1 hu
      have hq2:q<(m.den ρ).toNat*ks.length:=by simpa using hq
      have hpos:0<ks.length:=by
       rcases Nat.eq_zero_or_pos ks.length with h0|h0
       ·rw[h0]at hq2;simp at hq2
       ·exact h0
      have hr:q/ks.length<(m.den ρ).toNat:=Nat.div_lt_of_lt_mul (by rw[Nat.mul_comm];exact hq2)
      have hj:q % ks.length<ks.length:=Nat.mod_lt _ hpos
      have:=news _ _ hr hj
      rw[Nat.div_add_mod' q ks.length,List.getElem?_map,List.getElem?_range hq2]at this
      unfold n8 at this
      rw[List.getElem?_eq_getElem hj]at this
      have:=Option.some.inj this
      rw[show(cs[(ρ.f id 0)+q]?.getD undef)=_ from this]
      exact agm hb.2 (List.getElem?_eq_getElem hj) ρ _ _
  ·cases h
 ·cases h
def dl(L:af)(ks:List CK)(m:IE)(le:LE)(n:Nat):cT→Option (IE×LE×List F)
 |.one l=>match ny ks le (bf m) 0 l with
  |some le'=>some (cK (bf m) (.lit 1),le',[])
  |none=>none
 |.row m2 le2 ks2=>bif CK.eqs0 ks ks2&&bm ks then some (cK (bf m) (bf m2),.var n,[.rel 1 [m] [le,le2,.var n]])else none
 |.nothing=>some (m,le,[])
where
 CK.eqs0:List CK→List CK→Bool
 |[],[]=>true
 |.int a::l,.int b::m=>gw a b&&CK.eqs0 l m
 |.bool::l,.bool::m=>CK.eqs0 l m
 |.byte::l,.byte::m=>CK.eqs0 l m
 |_,_=>false
theorem dl.lF:∀{l m:List CK},dl.CK.eqs0 l m=true→l=m
 |[],[],_=>rfl
 |[],_::_,h=>by simp[dl.CK.eqs0]at h
 |a::_,[],h=>by cases a<;>simp[dl.CK.eqs0]at h
 |a::l,b::m,h=>by
  cases a<;>cases b<;>first
   |(simp[dl.CK.eqs0]at h;done)
   |(simp only[dl.CK.eqs0,Bool.and_eq_true]at h;rw[bY h.1,dl.lF h.2];done)
   |(simp only[dl.CK.eqs0]at h;rw[dl.lF h];done)
end
section
variable [cg] [Fm]
theorem fS.mono{w:World}{e:TypeId}{z N:Nat}{V V':Nat→Nat→Option Value}{b:Bool}{k off:Nat}{x:Value}(h:fS w e z N V b k off x)(hV:∀i,i<N→∀j v,V' i j=some v→V i j=some v):fS w e z N V' b k off x:=by
 refine⟨h.1,fun hb=>?_⟩
 obtain⟨cs,c,h1,h2,h3,h4,h5⟩:=h.2 hb
 exact⟨cs,c,h1,h2,h3,h4,fun i hi j v hv=>h5 i hi j v (hV i hi j v hv)⟩
theorem fS.len{w:World}{e:TypeId}{z N N':Nat}{V:Nat→Nat→Option Value}{b:Bool}{k off:Nat}{x:Value}(h:fS w e z N V b k off x)(hN:N=N'):fS w e z N' V b k off x:=hN▸h
def sH(n z:Nat)(le:LE):cT→Bool
 |.one l=>SV.avos n (n+1) l
 |.row m2 le2 ks2=>Nat.beq ks2.length z&&(m2.avo n (n+1)&&le2.avo n (n+1)&&le.avo n (n+1))
 |.nothing=>true
def brC(ρ:ap)(m:IE)(le:LE):cT→Nat→Nat→Int
 |.row _ le2 _=>fun i j=>if i<(m.den ρ).toNat then le.den ρ i j else le2.den ρ (i-(m.den ρ).toNat) j
 |_=>fun _ _=>0
def toB:List CK→List CK
 |[]=>[]
 |.int .u8::r=> .byte::toB r
 |k::r=>k::toB r
def ab9(P:Program)(L:af)(n:Nat)(t tx:TypeId)(s x:SV):Option OR:=
 match P.underlying t,P.underlying tx with
 |some (.slice e),some (.slice _)=>
  match P.info? e with
  |some info=>
   match info.zero with
   |some zv=>
    match(ofValue zv).cells with
    |some zc=>
     match(pw zc).map toB with
     |some ks0=>
      match sF L e ks0 n s,sG L info.size x with
      |some (id,ks,m,le),some br=>
       match dl L ks m le n br with
       |some (m',le',fs)=>
        bif !(Nat.beq e 0)&&(Nat.beq ks.length info.size&&(Nat.beq zv.cells.size info.size&&(Nat.ble info.bytes 16384&&(m.avo n (n+1)&&sH n info.size le br))))then
         some ⟨[.be (.cmp .leq m' (.lit 4294967296)),.be (.cmp .leq (.lit 0) m)],fs,.lst n,(.h n,.row true (.lst e ks m' le'))::jK id,n+1⟩
        else none
       |none=>none
      |_,_=>none
     |none=>none
    |none=>none
   |none=>none
  |none=>none
 |_,_=>none
theorem WF{P:Program}{C:bp}{ρ:ap}{L:af}{w:World}(H:HD C ρ L w){n:Nat}{t tx ty:TypeId}{s x:SV}{r:OR}(h:ab9 P L n t tx s x=some r)(hL:af.avo n r.nxt L=true)(hv:ar ρ r.vcs):
 ∃ρ' w',(Builtin.append_ #[t,tx] ty #[s.den ρ,x.den ρ]).run P w=.ok (r.val.den ρ') w'∧b7 n r.nxt ρ ρ'∧ar ρ' r.facts∧HD C ρ' (r.log++L) w':=by
 unfold ab9 at h
 split at h
 ·rename_i e ex ht htx
  split at h
  ·rename_i info hi
   split at h
   ·rename_i zv hz
    split at h
    ·rename_i zc hzc
     split at h
     ·rename_i ks0 hks0
      split at h
      ·rename_i id ks m le br hhd hbr
       split at h
       ·rename_i m' le' fs hk
        generalize hg:(!(Nat.beq e 0)&&(Nat.beq ks.length info.size&&(Nat.beq zv.cells.size info.size&&(Nat.ble info.bytes 16384&&(m.avo n (n+1)&&sH n info.size le br)))))=g at h
        cases g with
        |false=>cases h
        |true=>
         obtain rfl:=Option.some.inj h
         simp only[Bool.and_eq_true,Bool.not_eq_true']at hg
         obtain⟨g1,g2,g3,g4,g5,g6⟩:=hg
         have hksz:=Nat.eq_of_beq_eq_true g2
         have hby:=Nat.le_of_ble_eq_true g4
         obtain⟨b,k,off,hl,hown⟩:=a62 H g1 hhd
         obtain⟨news,hs,hnews⟩:=OG (P:=P) H htx hbr (fun m2 le2 ks2 e2=>by subst e2;simp only[sH,Bool.and_eq_true]at g6;exact Nat.eq_of_beq_eq_true g6.1)
         have hmax:=cd (aa.1 hv).1
         have hm0:=cd (aa.1 (aa.1 hv).2).1
         simp only[IE.den]at hmax hm0
         rw[hksz]at hl
         have hm':(m'.den ρ)=((m.den ρ).toNat+br.n ρ:Nat):=by
          cases br with
          |one l=>
           simp only[dl]at hk
           split at hk
           ·simp only[Option.some.injEq,Prod.mk.injEq]at hk;obtain⟨rfl,rfl,rfl⟩:=hk
            simp only[bU,aP,IE.den,cT.n];omega
           ·cases hk
          |row m2 le2 ks2=>
           simp only[dl]at hk
           cases hq:(dl.CK.eqs0 ks ks2&&bm ks)
           ·rw[hq]at hk;cases hk
           ·rw[hq]at hk
            simp only[cond_true,Option.some.injEq,Prod.mk.injEq]at hk;obtain⟨rfl,rfl,rfl⟩:=hk
            simp only[bU,aP,cT.n];omega
          |nothing=>
           simp only[dl,Option.some.injEq,Prod.mk.injEq]at hk;obtain⟨rfl,rfl,rfl⟩:=hk
           simp only[cT.n];omega
         obtain⟨b',k',off',x',w',hrun,hl',hbk,hst⟩:=nA (P:=P) t tx ty ht hi hz (Nat.eq_of_beq_eq_true g3) g1 (fun r j hr=>by rw[←hksz];exact o4 ρ ks (le.den ρ) r j) hl hs (by omega) hby
         let content:Nat→Nat→Int:=brC ρ m le br
         let ρ':=aW ρ n b' k' off' x' content
         have hag:b7 n (n+1) ρ ρ':=et ρ n b' k' off' x' content
         have hmd:m.den ρ'=m.den ρ:=IE.ag hag m g5
         refine⟨ρ',w',?_,hag,?_,?_⟩
         ·rw[hrun];simp only[SV.den,ρ',aW,if_true]
         ·
          cases br with
          |one l=>
           simp only[dl]at hk
           split at hk
           ·simp only[Option.some.injEq,Prod.mk.injEq]at hk;obtain⟨rfl,rfl,rfl⟩:=hk;exact aj _
           ·cases hk
          |row m2 le2 ks2=>
           simp only[dl]at hk
           cases hq:(dl.CK.eqs0 ks ks2&&bm ks)
           ·rw[hq]at hk;cases hk
           ·rw[hq]at hk
            simp only[cond_true,Option.some.injEq,Prod.mk.injEq]at hk;obtain⟨rfl,rfl,rfl⟩:=hk
            simp only[sH,Bool.and_eq_true]at g6
            refine aa.2 ⟨?_,aj _⟩
            simp only[F.holds,List.map_cons,List.map_nil,bF,adx,hmd,LE.ag hag le g6.2.2,LE.ag hag le2 g6.2.1.2]
            intro i j
            simp only[LE.den,ρ',aW,if_true,content,brC]
          |nothing=>
           simp only[dl,Option.some.injEq,Prod.mk.injEq]at hk;obtain⟨rfl,rfl,rfl⟩:=hk;exact aj _
         ·
          have hm'ρ:m'.den ρ'=m'.den ρ:=by
           cases br with
           |one l=>
            simp only[dl]at hk
            split at hk
            ·simp only[Option.some.injEq,Prod.mk.injEq]at hk;obtain⟨rfl,rfl,rfl⟩:=hk
             simp only[bU,aP,IE.den,hmd]
            ·cases hk
           |row m2 le2 ks2=>
            simp only[dl]at hk
            cases hq:(dl.CK.eqs0 ks ks2&&bm ks)
            ·rw[hq]at hk;cases hk
            ·rw[hq]at hk
             simp only[sH,Bool.and_eq_true]at g6
             simp only[cond_true,Option.some.injEq,Prod.mk.injEq]at hk;obtain⟨rfl,rfl,rfl⟩:=hk
             simp only[bU,aP,hmd,IE.ag hag m2 g6.2.1.1]
           |nothing=>
            simp only[dl,Option.some.injEq,Prod.mk.injEq]at hk;obtain⟨rfl,rfl,rfl⟩:=hk;exact hmd
          have hsub:HD C ρ (jK id++L) w:=by
           refine H.sub fun i o q hq=>?_
           cases id with
           |none=>exact hq
           |some id=>
            simp only[jK,List.cons_append,List.nil_append]at hq
            rw[ak]at hq
            by_cases he:aO.h id=aO.h i
            ·rw[if_pos he]at hq;cases hq
            ·rw[if_neg he]at hq;exact hq
          have hLg:af.avo n (n+1) (jK id++L)=true:=by
           refine af.cH ?_ hL
           cases id with
           |none=>rfl
           |some id=>
            have:∃o q,ai (.h id) L=some (.row o q):=by
             unfold sF at hhd
             split at hhd
             ·cases hhd
             ·split at hhd
              ·rename_i hlk
               cases hb2:Nat.beq e _
               ·rw[hb2]at hhd;cases hhd
               ·rw[hb2]at hhd
                simp only[cond_true,Option.some.injEq,Prod.mk.injEq]at hhd
                obtain⟨rfl,_⟩:=hhd;exact⟨_,_,hlk⟩
              ·cases hhd
             ·split at hhd
              ·rename_i hlk
               cases hb2:Nat.beq e _
               ·rw[hb2]at hhd;cases hhd
               ·rw[hb2]at hhd
                simp only[cond_true,Option.some.injEq,Prod.mk.injEq]at hhd
                obtain⟨rfl,_⟩:=hhd;exact⟨_,_,hlk⟩
              ·cases hhd
             ·cases hhd
            obtain⟨o,q,hlk⟩:=this
            have:=(af.al hL hlk).1
            simp only[jK,af.avo,this,aY.avo,Bool.and_self]
          have hlog:((aO.h n,aY.row true (am.lst e ks m' le'))::jK id)++L=(aO.h n,aY.row true (am.lst e ks m' le'))::(jK id++L):=rfl
          show HD C ρ' (((aO.h n,aY.row true (am.lst e ks m' le'))::jK id)++L) w'
          rw[hlog]
          refine hsub.lay (K:=fun c=>b=true∧c=k) (fun c hc=>?_) hst hLg hag ?_ (fun c hc=>?_)
          ·obtain⟨hb,rfl⟩:=hc
           obtain⟨i,rfl,h1,h2⟩:=hown hb
           refine⟨h1,fun j p q hq=>?_⟩
           simp only[jK,List.cons_append,List.nil_append]at hq
           rw[ak]at hq
           by_cases he:aO.h i=aO.h j
           ·rw[if_pos he]at hq;cases hq
           ·rw[if_neg he]at hq;exact h2 j p q (fun e=>he (by rw[e])) hq
          ·rw[bz]
           have hb':ρ'.b n=b':=by simp[ρ',aW]
           have hk':ρ'.k n=k':=by simp[ρ',aW]
           have ho':ρ'.f n 0=off':=by simp[ρ',aW]
           have hx':ρ'.x n=x':=by simp[ρ',aW]
           rw[hb',hk',ho',hx',hm'ρ,hksz]
           refine(hl'.len (by rw[hm'];omega)).mono fun r hr j v hvv=>?_
           rw[hm']at hr
           have hr:r<(m.den ρ).toNat+br.n ρ:=by omega
           show(if r<(m.den ρ).toNat then n8 ρ ks (le.den ρ) r j else if j<info.size then news[(r-(m.den ρ).toNat)*info.size+j]? else none)=some v
           have oldr:r<(m.den ρ).toNat→∀(le0:LE),le0=le→n8 ρ' ks (le0.den ρ') r j=n8 ρ ks (le.den ρ) r j:=by
            intro hrm le0 hle0
            subst hle0
            unfold sF at hhd
            split at hhd
            ·simp only[Option.some.injEq,Prod.mk.injEq]at hhd;obtain⟨_,_,rfl,_⟩:=hhd;simp[IE.den]at hrm
            ·split at hhd
             ·rename_i hlk
              cases hb2:Nat.beq e _
              ·rw[hb2]at hhd;cases hhd
              ·rw[hb2]at hhd
               simp only[cond_true,Option.some.injEq,Prod.mk.injEq]at hhd
               obtain⟨rfl,rfl,rfl,rfl⟩:=hhd
               have hav:=(af.al hL hlk).2
               simp only[aY.avo,am.avo,Bool.and_eq_true,List.all_eq_true]at hav
               unfold n8
               rw[LE.ag hag _ hav.2.1]
               cases hkj:(_:List CK)[j]? with
               |none=>rfl
               |some k0=>simp only[Option.map_some,CK.MM hag (hav.2.2 k0 (List.mem_of_getElem? hkj))]
             ·cases hhd
            ·split at hhd
             ·cases hb2:Nat.beq e _
              ·rw[hb2]at hhd;cases hhd
              ·rw[hb2]at hhd
               simp only[cond_true,Option.some.injEq,Prod.mk.injEq]at hhd
               obtain⟨_,_,rfl,_⟩:=hhd;simp[IE.den]at hrm
             ·cases hhd
            ·cases hhd
           have hjl:j<ks.length:=(o4 ρ' ks (le'.den ρ') r j).1 (by rw[hvv];rfl)
           cases br with
           |one l=>
            simp only[dl]at hk
            split at hk
            ·rename_i le2 hrp
             simp only[Option.some.injEq,Prod.mk.injEq]at hk;obtain⟨_,rfl,_⟩:=hk
             have hput:=gB (ρ:=ρ') hrp r j _ (List.getElem?_eq_getElem hjl)
             rw[aP,hmd]at hput
             have hvv2:(ks[j]).v ρ' r (le2.den ρ' r j)=v:=by
              unfold n8 at hvv;rw[List.getElem?_eq_getElem hjl]at hvv;exact Option.some.inj hvv
             simp only[cT.n]at hr
             by_cases hrm:r<(m.den ρ).toNat
             ·rw[if_pos hrm]
              rw[if_neg (by omega)]at hput
              rw[←oldr hrm le rfl]
              unfold n8
              rw[List.getElem?_eq_getElem hjl,Option.map_some,←hput,hvv2]
             ·have hre:r=(m.den ρ).toNat:=by omega
              rw[if_neg hrm,if_pos (by rw[←hksz];exact hjl)]
              simp only[cT.told]at hnews
              simp only[sH]at g6
              have hll:l.length=info.size:=by
               have:=hs.newsLen
               rw[hnews,List.length_map]at this
               simp only[cT.n,Nat.one_mul]at this;exact this
              rw[if_pos ⟨by omega,by omega,by rw[Nat.zero_add,hll,←hksz];exact hjl⟩]at hput
              have hden:l.map (SV.den ρ')=l.map (SV.den ρ):=by rw[←SV.b9,←SV.b9];exact SV.eH hag l g6
              rw[hre,Nat.sub_self,Nat.zero_mul,Nat.zero_add,hnews,←hden]
              rw[Nat.sub_zero]at hput
              have hjl2:j<(l.map (SV.den ρ')).length:=by rw[List.length_map,hll,←hksz];exact hjl
              rw[List.getElem?_eq_getElem hjl2]at hput⊢
              rw[←hvv2,hput];rfl
            ·cases hk
           |row m2 le2 ks2=>
            simp only[dl]at hk
            cases hq:(dl.CK.eqs0 ks ks2&&bm ks)
            ·rw[hq]at hk;cases hk
            ·rw[hq]at hk
             simp only[cond_true,Option.some.injEq,Prod.mk.injEq]at hk;obtain⟨_,rfl,_⟩:=hk
             simp only[sH,Bool.and_eq_true]at hq g6
             have hkk:=dl.lF hq.1
             subst hkk
             have hvv2:(ks[j]).v ρ' r (content r j)=v:=by
              unfold n8 at hvv;rw[List.getElem?_eq_getElem hjl]at hvv
              have:(LE.var n).den ρ'=content:=by simp[LE.den,ρ',aW]
              rw[this]at hvv;exact Option.some.inj hvv
             simp only[content,brC]at hvv2
             simp only[cT.n]at hr
             by_cases hrm:r<(m.den ρ).toNat
             ·rw[if_pos hrm]at hvv2⊢
              unfold n8
              rw[List.getElem?_eq_getElem hjl,Option.map_some,←hvv2]
              exact congrArg some (o0 hq.2 j _ (List.getElem?_eq_getElem hjl) ρ ρ' r r _)
             ·rw[if_neg hrm]at hvv2⊢
              rw[if_pos (by rw[←hksz];exact hjl)]
              simp only[cT.told]at hnews
              rw[hnews _ _ (by omega) (by rw[←hksz];exact hjl)]
              unfold n8
              rw[List.getElem?_eq_getElem hjl,Option.map_some,←hvv2]
              exact congrArg some (o0 hq.2 j _ (List.getElem?_eq_getElem hjl) ρ ρ' _ r _)
           |nothing=>
            simp only[dl,Option.some.injEq,Prod.mk.injEq]at hk;obtain⟨_,rfl,_⟩:=hk
            simp only[cT.n]at hr
            rw[if_pos (by omega),←oldr (by omega) le rfl];exact hvv
          ·obtain⟨hb,hc⟩:=hc
           have hb':ρ'.b n=b':=by simp[ρ',aW]
           have hk':ρ'.k n=k':=by simp[ρ',aW]
           rw[hb']at hb;rw[hk']at hc
           rcases hbk hb with⟨h1,h2⟩|h1
           ·exact .inl ⟨h1,by rw[hc,h2]⟩
           ·exact .inr (by rw[hc];exact h1)
       ·cases h
      ·cases h
     ·cases h
    ·cases h
   ·cases h
  ·cases h
 ·cases h
end
section
variable [cg] [Fm]
def OpH(P:Program)(run:ap→World→Result Value)(L:af)(n:Nat)(r:OR):Prop:=
 ∀(C:bp) (ρ:ap) (w:World),HD C ρ L w→ar ρ r.vcs→af.avo n r.nxt L=true→
  ∃ρ' w',run ρ w=.ok (r.val.den ρ') w'∧b7 n r.nxt ρ ρ'∧ar ρ' r.facts∧HD C ρ' (r.log++L) w'
def o5(z:List SV):Nat→List SV
 |0=>[]
 |k+1=>z++o5 z k
def sI(P:Program)(L:af)(n:Nat)(t:TypeId)(len:Nat)(ps:List (Nat×SV)):Option OR:=
 match P.underlying t with
 |some (.slice e)=>
  match eZ P e,sC P e with
  |some z,some zv=>
   match(ofValue zv).cells with
   |some zc=>
    bif Nat.beq zc.length z&&Nat.ble (len*z) 1000 then
     match nY L (fun i=>some (i*z,z)) (o5 zc len) ps with
     |some l=>bif SV.avos n (n+1) l then some ⟨[],[],.sl (.at n 0) (.lit (.ofNat len)) (.lit (.ofNat len)),[(.h n,.row true (.cells e l))],n+1⟩else none
     |none=>none
    else none
   |none=>none
  |_,_=>none
 |_=>none
theorem a5u(z:List SV):∀k,(o5 z k).length=k*z.length
 |0=>by simp[o5]
 |k+1=>by simp only[o5,List.length_append,a5u z k,Nat.succ_mul];omega
theorem uM(z:List SV):∀(k q:Nat),q<k*z.length→(o5 z k)[q]? =z[q % z.length]?
 |0,q,h=>by simp at h
 |k+1,q,h=>by
  simp only[o5]
  rw[Nat.succ_mul]at h
  rcases Nat.lt_or_ge q z.length with hq|hq
  ·rw[List.getElem?_append_left hq,Nat.mod_eq_of_lt hq]
  ·rw[List.getElem?_append_right hq,uM z k _ (by omega),←Nat.mod_eq_sub_mod hq]
theorem ae0(ρ:ap)(zc:List SV)(z:Array Value)(hz:z=(zc.map (SV.den ρ)).toArray)(len:Nat):(Array.range (len*zc.length)).map (fun i=>z[i % z.size]!)=((o5 zc len).map (SV.den ρ)).toArray:=by
 subst hz
 apply Array.ext_getElem?
 intro q
 rw[Array.getElem?_map]
 simp only[List.size_toArray,List.length_map,List.getElem?_toArray,List.getElem?_map]
 rcases Nat.lt_or_ge q (len*zc.length)with hq|hq
 ·have hpos:0<zc.length:=by
   rcases Nat.eq_zero_or_pos zc.length with h0|h0
   ·rw[h0]at hq;simp at hq
   ·exact h0
  have hm:=Nat.mod_lt q hpos
  rw[uM zc len q hq,Array.getElem?_range,if_pos hq,List.getElem?_eq_getElem hm]
  simp[hm]
 ·rw[List.getElem?_eq_none (by rw[a5u];exact hq),Array.getElem?_range,if_neg (by omega)]
  rfl
theorem wK{P:Program}{L:af}{n:Nat}{t:TypeId}{len:Nat}{ps:List (Nat×SV)}{r:OR}(h:sI P L n t len ps=some r):
 OpH P (fun ρ w=>(Instr.buildSlice t len (ps.map fun x=>(x.1,x.2.den ρ)).toArray).run P w) L n r:=by
 intro C ρ w H hv hL
 unfold sI at h
 split at h
 ·rename_i e ht
  split at h
  ·rename_i z zv hz hzv
   split at h
   ·rename_i zc hzc
    cases hb:(Nat.beq zc.length z&&Nat.ble (len*z) 1000)
    ·rw[hb]at h;cases h
    rw[hb]at h
    simp only[cond_true]at h
    simp only[Bool.and_eq_true]at hb
    have hzl:=Nat.eq_of_beq_eq_true hb.1
    have hle:=Nat.le_of_ble_eq_true hb.2
    subst hzl
    split at h
    ·rename_i l hl
     cases ha:SV.avos n (n+1) l
     ·rw[ha]at h;cases h
     rw[ha]at h
     obtain rfl:=Option.some.inj h
     refine⟨sD ρ n w.heap.size,w.alloc (.cells (l.map (SV.den ρ)).toArray e),?_,kV _ _ _,aj _,H.newCells hL ha⟩
     have hf:=lE H hl
     have hcells:zv.cells=(zc.map (SV.den ρ)).toArray:=by have:=SV.q7 (ρ:=ρ) hzc;rw[gP]at this;exact this
     have hbig:¬(len*zc.length>2 ^ 24):=by omega
     have hbig':¬(16777216<len*zc.length):=by omega
     simp only[Instr.buildSlice,Sem.run_bind,aR w ht,Result.andThen_ok,bC w hz,if_neg hbig]
     by_cases h0:len*zc.length=0
     ·rw[if_pos h0]
      have e0:(o5 zc len).map (SV.den ρ)=[]:=by
       have:=a5u zc len
       rw[h0]at this
       rw[List.eq_nil_of_length_eq_zero this];rfl
      rw[e0]at hf
      have hA0:(Array.range (len*zc.length)).map (fun x=>(#[]:Array Value)[x % (#[]:Array Value).size]!)=#[]:=by rw[h0];simp
      have hf0:Instr.fill (fun i=>some (i*zc.length,zc.length)) #[] (List.map (fun x=>(x.fst,SV.den ρ x.snd)) ps)=some (List.map (SV.den ρ) l).toArray:=hf
      simp only[Sem.run_pure,Result.andThen_ok,List.toList_toArray,hA0,hf0,Sem.run_bind,newRow,run_newObj,SV.den,IE.den,PT.addr,jI]
      rfl
     ·rw[if_neg h0]
      simp only[Sem.run_bind,gb w hzv,Result.andThen_ok,Sem.run_pure,List.toList_toArray]
      have hA:=ae0 ρ zc zv.cells hcells len
      simp only[hA,hf,Sem.run_bind,newRow,run_newObj,Result.andThen_ok,Sem.run_pure,SV.den,IE.den,PT.addr,jI]
      rfl
    ·cases h
   ·cases h
  ·cases h
 ·cases h
end
section
variable [cg] [Fm]
theorem o6(ρ:ap)(n:Nat)(b:Bool)(k off:Nat)(x:Value)(l:Nat→Nat→Int):(aW ρ n b k off x l).b n=b∧(aW ρ n b k off x l).k n=k∧(aW ρ n b k off x l).f n 0=off∧(aW ρ n b k off x l).x n=x∧(aW ρ n b k off x l).l n=l:=by simp[aW]
theorem WG{ρ:ap}{n:Nat}{b:Bool}{k off:Nat}{x:Value}{l:Nat→Nat→Int}{w:World}{e:TypeId}{ks:List CK}{m:IE}{le:LE}{N:Nat}{V:Nat→Nat→Option Value}(h:fS w e ks.length N V b k off x)
 (hN:(m.den (aW ρ n b k off x l)).toNat=N) (hV:∀i,i<N→∀j v,n8 (aW ρ n b k off x l) ks (le.den (aW ρ n b k off x l)) i j=some v→V i j=some v):(am.lst e ks m le).holds (aW ρ n b k off x l) n w:=by
 obtain⟨h1,h2,h3,h4,_⟩:=o6 ρ n b k off x l
 rw[bz,h1,h2,h3,h4,hN]
 exact h.mono hV
def sJ(P:Program)(n:Nat)(t:TypeId)(a:IE):Option OR:=
 match P.underlying t with
 |some (.slice e)=>
  match P.info? e with
  |some info=>
   match info.zero with
   |some zv=>
    match(ofValue zv).cells with
    |some zc=>
     match pw zc with
     |some ks=>
      bif !(Nat.beq e 0)&&(Nat.beq zc.length info.size&&(Nat.ble info.bytes 16384&&(a.avo n (n+1)&&zeroK zc)))then
       some ⟨[.be (.cmp .leq (.lit 0) a),.be (.cmp .leq a (.lit 4294967296))],[],.lst n,[(.h n,.row true (.lst e ks a (.var n)))],n+1⟩
      else none
     |none=>none
    |none=>none
   |none=>none
  |none=>none
 |_=>none
where
 zeroK:List SV→Bool
 |[]=>true
 |.int _ (.lit (.ofNat 0))::r=>zeroK r
 |.b (.lit false)::r=>zeroK r
 |_=>false
theorem a64{zc:List SV}(h:sJ.zeroK zc=true):∀{ks:List CK},pw zc=some ks→ks.length=zc.length∧∀(j:Nat) (k:CK),ks[j]? =some k→∀(ρ σ:ap) (i:Nat),(zc.map (SV.den σ))[j]? =some (k.v ρ i 0):=by
 induction zc with
 |nil=>intro ks hk;simp only[pw]at hk;obtain rfl:=Option.some.inj hk;exact⟨rfl,fun j k hk=>by simp at hk⟩
 |cons s r ih=>
  intro ks hk
  simp only[pw]at hk
  split at hk
  ·rename_i k l h1 h2
   obtain rfl:=Option.some.inj hk
   have hr:sJ.zeroK r=true∧∀(ρ σ:ap) (i:Nat),s.den σ=k.v ρ i 0:=by
    unfold sJ.zeroK at h
    split at h
    ·simp_all
    ·rename_i he;obtain⟨rfl,rfl⟩:=List.cons.inj he;obtain rfl:=Option.some.inj h1;exact⟨h,fun _ _ _=>rfl⟩
    ·rename_i he;obtain⟨rfl,rfl⟩:=List.cons.inj he;obtain rfl:=Option.some.inj h1;exact⟨h,fun _ _ _=>rfl⟩
    ·cases h
   obtain⟨g1,g2⟩:=ih hr.1 h2
   refine⟨by simp[g1],fun j k' hk' ρ σ i=>?_⟩
   cases j with
   |zero=>obtain rfl:=Option.some.inj hk';simp only[List.map_cons,List.getElem?_cons_zero,hr.2 ρ σ i]
   |succ j=>simpa using g2 j k' (by simpa using hk') ρ σ i
  ·cases hk
theorem OH{P:Program}{L:af}{n:Nat}{t:TypeId}{a:IE}{k k':IntKind}{r:OR}(h:sJ P n t a=some r):
 OpH P (fun ρ w=>(Instr.makeSlice t (.int k (a.den ρ)) (.int k' (a.den ρ))).run P w) L n r:=by
 intro C ρ w H hv hL
 unfold sJ at h
 split at h
 ·rename_i e ht
  split at h
  ·rename_i info hi
   split at h
   ·rename_i zv hz
    split at h
    ·rename_i zc hzc
     split at h
     ·rename_i ks hks
      generalize hg:(!(Nat.beq e 0)&&(Nat.beq zc.length info.size&&(Nat.ble info.bytes 16384&&(a.avo n (n+1)&&sJ.zeroK zc))))=g at h
      cases g with
      |false=>cases h
      |true=>
       obtain rfl:=Option.some.inj h
       simp only[Bool.and_eq_true,Bool.not_eq_true']at hg
       obtain⟨g1,g2,g3,g4,g5⟩:=hg
       have hzl:=Nat.eq_of_beq_eq_true g2
       have hby:=Nat.le_of_ble_eq_true g3
       obtain⟨hkl,hkv⟩:=a64 g5 hks
       have h0:=cd (aa.1 hv).1
       have h1:=cd (aa.1 (aa.1 hv).2).1
       simp only[IE.den]at h0 h1
       have hbytes:(info.bytes:Int)*a.den ρ≤281474976710656:=by
        have h2:((info.bytes*(a.den ρ).toNat:Nat):Int)≤281474976710656:=by
         have:info.bytes*(a.den ρ).toNat≤16384*4294967296:=Nat.mul_le_mul hby (by omega)
         omega
        rw[Int.natCast_mul,Int.toNat_of_nonneg h0]at h2;exact h2
       have hrun:=run_make (P:=P) w t e info zv ht hi hz k k' (a.den ρ) (a.den ρ) h0 (Int.le_refl _) hbytes (by omega)
       refine⟨aW ρ n true w.heap.size 0 (.slice (some ⟨w.heap.size,0,none⟩) (a.den ρ).toNat (a.den ρ).toNat) (fun _ _=>0),w.alloc (.cells (madeCells zv.cells ((a.den ρ).toNat*info.size)) e),?_,et _ _ _ _ _ _ _,aj _,?_⟩
       ·refine hrun.trans ?_
        simp only[SV.den,aW,if_true]
       ·have hag:=et ρ n true w.heap.size 0 (.slice (some ⟨w.heap.size,0,none⟩) (a.den ρ).toNat (a.den ρ).toNat) (fun _ _=>(0:Int))
        have hst:BX w (w.alloc (.cells (madeCells zv.cells ((a.den ρ).toNat*info.size)) e)) (fun _=>False):=⟨rfl,rfl,rfl,by simp,fun b hb _=>Below.heap_alloc w _ b hb⟩
        refine H.lay (K:=fun _=>False) (fun _ h=>h.elim) hst hL hag ?_ (fun b hb=>?_)
        ·refine WG (N:=(a.den ρ).toNat) (V:=n8 ρ ks (fun _ _=>0)) ⟨fun h=>(by cases h),fun _=>⟨madeCells zv.cells ((a.den ρ).toNat*info.size),(a.den ρ).toNat,rfl,.inl ?_,.inr ?_,Nat.le_refl _,fun i hi' j v hvv=>?_⟩⟩ (by rw[IE.ag hag a g4]) (fun i hi' j v hvv=>?_)
         ·show(w.heap.push _)[w.heap.size]? =_
          rw[Array.getElem?_push_size]
         ·rw[size_madeCells,hkl,hzl,Nat.zero_add];exact Nat.le_refl _
         ·unfold n8 at hvv
          cases hkj:ks[j]? with
          |none=>rw[hkj]at hvv;cases hvv
          |some kk=>
           rw[hkj]at hvv
           obtain rfl:=Option.some.inj hvv
           have hj:j<ks.length:=(List.getElem?_eq_some_iff.1 hkj).1
           have hcells:zv.cells=(zc.map (SV.den ρ)).toArray:=by have:=SV.q7 (ρ:=ρ) hzc;rw[gP]at this;exact this
           have hz1:=hkv j kk hkj ρ ρ i
           have hq:0+i*ks.length+j<(a.den ρ).toNat*info.size:=by
            have:=Nat.mul_le_mul_right info.size (show i+1≤(a.den ρ).toNat by omega)
            rw[Nat.add_mul,Nat.one_mul]at this
            rw[hkl,hzl];rw[hkl,hzl]at hj;omega
           unfold madeCells
           rw[Array.getElem?_map,Array.getElem?_range,if_pos hq,Option.map_some]
           have hmod:(0+i*ks.length+j) % zv.cells.size=j:=by
            rw[hcells,List.size_toArray,List.length_map,←hkl,Nat.zero_add,Nat.add_comm,Nat.add_mul_mod_self_right]
            exact Nat.mod_eq_of_lt hj
           rw[hmod,hcells]
           have hjz:j<(zc.map (SV.den ρ)).length:=by rw[List.length_map,←hkl];exact hj
           rw[List.getElem?_eq_getElem hjz]at hz1
           have:=Option.some.inj hz1
           simp only[List.getElem!_toArray,List.getElem!_eq_getElem?_getD,List.getElem?_eq_getElem hjz,Option.getD_some,this]
         ·simp only[LE.den]at hvv
          rw[(o6 ρ n true w.heap.size 0 _ (fun _ _=>(0:Int))).2.2.2.2]at hvv
          unfold n8 at hvv⊢
          cases hkj:ks[j]? with
          |none=>rw[hkj]at hvv;cases hvv
          |some kk=>
           rw[hkj]at hvv
           rw[←hvv]
           simp only[Option.map_some]
           have hpl:∀σ τ:ap,kk.v σ i 0=kk.v τ i 0:=fun σ τ=>by
            have a1:=hkv j kk hkj σ ρ i
            have a2:=hkv j kk hkj τ ρ i
            rw[a1]at a2;exact Option.some.inj a2
           exact congrArg some (hpl _ _)
        ·have h5:=(o6 ρ n true w.heap.size 0 (.slice (some ⟨w.heap.size,0,none⟩) (a.den ρ).toNat (a.den ρ).toNat) (fun _ _=>(0:Int))).2.1
         simp only[am.owns]at hb
         exact .inr (by rw[hb.2,h5];exact Nat.le_refl _)
     ·cases h
    ·cases h
   ·cases h
  ·cases h
 ·cases h
end
section
variable [cg] [Fm]
def a65(P:Program)(L:af)(n:Nat)(t:TypeId)(s:SV)(lo hi:Option IE):Option OR:=
 match P.underlying t,s with
 |some (.slice e1),.lst id=>
  match ai (.h id) L with
  |some (.row o (.lst e ks m le))=>
   let l:=match lo with|some x=>x|none=> .lit 0
   let h:=match hi with|some x=>x|none=>bf m
   bif !(Nat.beq e 0)&&(bm ks&&(Nat.beq (match eZ P e1 with|some z=>z|none=>0) ks.length&&(!(Nat.beq ks.length 0)&&(l.avo n (n+1)&&(h.avo n (n+1)&&le.avo n (n+1))))))then
    some ⟨[.be (.cmp .leq (.lit 0) l),.be (.cmp .leq l h),.be (.cmp .leq h (bf m))],[.rel 2 [l] [le,.var n]],.lst n,[(.h n,.row false (.lst e ks (qG h l) (.var n))),(.h id,.row false (.lst e ks m le))],n+1⟩
   else none
  |_=>none
 |_,_=>none
theorem Ha{P:Program}{w:World}{ρ:ap}{m l hh:IE}{lo hi:Option IE}{kl kh:IntKind}{c:Nat}(full:Bool)(hll:l=match lo with|some x=>x|none=> .lit 0)(hhh:hh=match hi with|some x=>x|none=>bf m)
 (h0:0≤l.den ρ) (h1:l.den ρ≤hh.den ρ) (h2:hh.den ρ≤((m.den ρ).toNat:Int)) (hc:(m.den ρ).toNat≤c):
 ∃c',(hh.den ρ).toNat≤c'∧c'≤c∧(Instr.sliceBounds true (m.den ρ).toNat c (lo.map fun x=> .int kl (x.den ρ)) (hi.map fun x=> .int kh (x.den ρ)) (bif full then hi.map fun x=> .int kh (x.den ρ)else none)).run P w=.ok ((l.den ρ).toNat,(hh.den ρ).toNat,c') w:=by
 have b2:∀(x:Int) (y:Nat) code,0≤x→x≤(y:Int)→(Instr.sliceBound (.int kh x) y code).run P w=.ok x.toNat w:=fun x y code hx hy=>run_sliceBound w kh _ y code hx hy
 have b1:∀(x:Int) (y:Nat) code,0≤x→x≤(y:Int)→(Instr.sliceBound (.int kl x) y code).run P w=.ok x.toNat w:=fun x y code hx hy=>run_sliceBound w kl _ y code hx hy
 cases full with
 |false=>
  refine⟨c,by omega,Nat.le_refl _,?_⟩
  cases lo with
  |none=>
   cases hi with
   |none=>simp only at hll hhh;subst hll hhh;simp[Instr.sliceBounds,IE.den,aP]<;>omega
   |some x=>
    simp only at hll hhh;subst hll hhh
    simp only[IE.den]at h1
    simp[Instr.sliceBounds,IE.den,b2 (hh.den ρ) c _ h1 (by omega)]
  |some y=>
   cases hi with
   |none=>
    simp only at hll hhh;subst hll hhh
    simp only[aP]at h1
    simp[Instr.sliceBounds,aP,b1 (l.den ρ) (m.den ρ).toNat _ h0 h1]<;>omega
   |some x=>
    simp only at hll hhh;subst hll hhh
    simp[Instr.sliceBounds,b2 (hh.den ρ) c _ (by omega) (by omega),b1 (l.den ρ) (hh.den ρ).toNat _ h0 (by omega)]
 |true=>
  cases hi with
  |none=>
   refine⟨c,by omega,Nat.le_refl _,?_⟩
   cases lo with
   |none=>simp only at hll hhh;subst hll hhh;simp[Instr.sliceBounds,IE.den,aP]<;>omega
   |some y=>
    simp only at hll hhh;subst hll hhh
    simp only[aP]at h1
    simp[Instr.sliceBounds,aP,b1 (l.den ρ) (m.den ρ).toNat _ h0 h1]<;>omega
  |some x=>
   refine⟨(hh.den ρ).toNat,Nat.le_refl _,by omega,?_⟩
   cases lo with
   |none=>
    simp only at hll hhh;subst hll hhh
    simp only[IE.den]at h1
    simp[Instr.sliceBounds,IE.den,b2 (hh.den ρ) c _ h1 (by omega),b2 (hh.den ρ) (hh.den ρ).toNat _ h1 (by omega)]
   |some y=>
    simp only at hll hhh;subst hll hhh
    simp[Instr.sliceBounds,b2 (hh.den ρ) c _ (by omega) (by omega),b2 (hh.den ρ) (hh.den ρ).toNat _ (by omega) (by omega),b1 (l.den ρ) (hh.den ρ).toNat _ h0 (by omega)]
theorem BY{P:Program}{L:af}{n:Nat}{t:TypeId}{s:SV}{lo hi:Option IE}{kl kh:IntKind}(full:Bool){r:OR}(h:a65 P L n t s lo hi=some r):
 OpH P (fun ρ w=>(Instr.sliceAt t (s.den ρ) (lo.map fun x=> .int kl (x.den ρ)) (hi.map fun x=> .int kh (x.den ρ)) (bif full then hi.map fun x=> .int kh (x.den ρ)else none)).run P w) L n r:=by
 intro C ρ w H hv hL
 unfold a65 at h
 split at h
 ·rename_i e1 id ht
  split at h
  ·rename_i o e ks m le hl
   simp only at h
   generalize hll:(match lo with|some x=>x|none=>IE.lit 0)=l at h
   generalize hhh:(match hi with|some x=>x|none=>bf m)=hh at h
   generalize hg:(!(Nat.beq e 0)&&(bm ks&&(Nat.beq (match eZ P e1 with|some z=>z|none=>0) ks.length&&(!(Nat.beq ks.length 0)&&(l.avo n (n+1)&&(hh.avo n (n+1)&&le.avo n (n+1)))))))=g at h
   cases g with
   |false=>cases h
   |true=>
    obtain rfl:=Option.some.inj h
    simp only[Bool.and_eq_true,Bool.not_eq_true']at hg
    obtain⟨g1,g2,g3,g4,g5,g6,g7⟩:=hg
    have hpos:0<ks.length:=by
     rcases Nat.eq_zero_or_pos ks.length with h0|h0
     ·rw[h0]at g4;cases g4
     ·exact h0
    have hz:eZ P e1=some ks.length:=by
     have:=Nat.eq_of_beq_eq_true g3
     cases hs:eZ P e1 with
     |none=>rw[hs]at this;simp only at this;omega
     |some z=>rw[hs]at this;simp only at this;rw[this]
    have he0:¬e=0:=fun h=>by subst h;cases g1
    have h0:=cd (aa.1 hv).1
    have h1:=cd (aa.1 (aa.1 hv).2).1
    have h2:=cd (aa.1 (aa.1 (aa.1 hv).2).2).1
    simp only[IE.den,aP]at h0 h1 h2
    have hrow:=(bz ρ id w e ks m le).1 (H.rows id o _ hl)
    have H1:HD C ρ ((.h id,.row false (.lst e ks m le))::L) w:=by
     refine H.step rfl rfl rfl (Nat.le_refl _) (fun _ _=>rfl) (fun _ _ _ _ _ _ _=>rfl) (H.rows id o _ hl) (fun h=>by cases h) (fun _ b hb=>?_) (fun i p q hi2 hq hor b hb=>H.apart (fun e=>hi2 e.symm) hl hq (.inr (hor.resolve_left (by decide))) hb)
     cases o
     ·exact H.ro id _ hl b hb
     ·exact .inr (H.own id _ hl b hb)
    have hLid:=(af.al hL hl)
    have hL1:af.avo n (n+1) ((aO.h id,aY.row false (.lst e ks m le))::L)=true:=by
     have a1:=hLid.1
     have a2:=hLid.2
     simp only[aY.avo]at a2
     simp only[af.avo,aY.avo,a1,a2,hL,Bool.and_self]
    have run:∀(a:Option Addr) (c0:Nat),(m.den ρ).toNat≤c0→∃c,(hh.den ρ).toNat≤c∧c≤c0∧(Instr.sliceAt t (.slice a (m.den ρ).toNat c0) (lo.map fun x=> .int kl (x.den ρ)) (hi.map fun x=> .int kh (x.den ρ)) (bif full then hi.map fun x=> .int kh (x.den ρ)else none)).run P w=
     .ok (.slice (if c=(l.den ρ).toNat then a else a.map (·.add ((l.den ρ).toNat*ks.length))) ((hh.den ρ).toNat-(l.den ρ).toNat) (c-(l.den ρ).toNat)) w:=by
     intro a c0 hc
     obtain⟨c,q1,q2,hb⟩:=Ha (P:=P) (w:=w) (kl:=kl) (kh:=kh) full hll.symm hhh.symm h0 h1 h2 hc
     refine⟨c,q1,q2,?_⟩
     simp only[Instr.sliceAt,Sem.run_bind,aR w ht,Result.andThen_ok,Instr.slice,hb,bC w hz,Sem.run_pure]
    let content:Nat→Nat→Int:=fun i j=>le.den ρ (i+(l.den ρ).toNat) j
    have fin:∀(b':Bool) (k' off':Nat) (x':Value),(Instr.sliceAt t (ρ.x id) (lo.map fun x=> .int kl (x.den ρ)) (hi.map fun x=> .int kh (x.den ρ)) (bif full then hi.map fun x=> .int kh (x.den ρ)else none)).run P w=.ok x' w→
     fS w e ks.length ((hh.den ρ).toNat-(l.den ρ).toNat) (n8 ρ ks content) b' k' off' x'→(b'=true→ρ.b id=true∧k'=ρ.k id)→
     ∃ρ' w',(Instr.sliceAt t ((SV.lst id).den ρ) (lo.map fun x=> .int kl (x.den ρ)) (hi.map fun x=> .int kh (x.den ρ)) (bif full then hi.map fun x=> .int kh (x.den ρ)else none)).run P w=.ok ((SV.lst n).den ρ') w'∧b7 n (n+1) ρ ρ'∧ar ρ' [.rel 2 [l] [le,.var n]]∧
      HD C ρ' ([(aO.h n,aY.row false (.lst e ks (qG hh l) (.var n))),(aO.h id,aY.row false (.lst e ks m le))]++L) w':=by
     intro b' k' off' x' hr hx' hbk
     have hag:=et ρ n b' k' off' x' content
     obtain⟨s1,s2,s3,s4,s5⟩:=o6 ρ n b' k' off' x' content
     have H2:=H1.agr hag hL1
     refine⟨aW ρ n b' k' off' x' content,w,by rw[show(SV.lst id).den ρ=ρ.x id from rfl,hr];simp only[SV.den,s4],hag,aa.2 ⟨?_,aj _⟩,?_⟩
     ·simp only[F.holds,List.map_cons,List.map_nil,bF,aa2,IE.ag hag l g5,LE.ag hag le g7]
      intro i j
      simp only[LE.den,s5,content]
     ·have hown:∀b,(am.lst e ks (qG hh l) (.var n)).owns (aW ρ n b' k' off' x' content) n b→(am.lst e ks m le).owns (aW ρ n b' k' off' x' content) id b:=by
       intro b hb
       simp only[am.owns,s1,s2]at hb⊢
       obtain⟨q1,q2⟩:=hbk hb.1
       have hidn:=aF (show off n (n+1) id=true from hLid.1)
       rw[hag.b id hidn,hag.k id hidn]
       exact⟨q1,by rw[hb.2,q2]⟩
      refine H2.step rfl rfl rfl (Nat.le_refl _) (fun _ _=>rfl) (fun _ _ _ _ _ _ _=>rfl) ?_ (fun h=>by cases h) (fun _ b hb=>H2.ro id _ (bT _ _ _) b (hown b hb)) (fun i p q hi2 hq hor b hb hc=>?_)
      ·refine WG hx' (by simp only[lA,IE.ag hag hh g6,IE.ag hag l g5];omega) (fun i hi2 j v hvv=>?_)
       simp only[LE.den,s5]at hvv
       unfold n8 at hvv⊢
       cases hkj:ks[j]? with
       |none=>rw[hkj]at hvv;cases hvv
       |some kk=>
        rw[hkj]at hvv
        rw[←hvv]
        exact congrArg some (o0 g2 j kk hkj _ _ _ _ _)
      ·have hp:p=true:=hor.resolve_left (by decide)
       subst hp
       exact H2.dis id i _ q (bT _ _ _) hq b (hown b hb) hc
    cases hb:ρ.b id with
    |false=>
     obtain⟨hN,hx⟩:=hrow.1 hb
     have hx:=hx.resolve_right fun h=>he0 h.1
     have hl0:(l.den ρ).toNat=0:=by omega
     have hh0:(hh.den ρ).toNat=0:=by omega
     refine fin false 0 0 (.slice none 0 0) ?_ ⟨fun _=>⟨by omega,.inl rfl⟩,fun h=>(by cases h)⟩ (fun h=>by cases h)
     rw[hx]
     obtain⟨c,q1,q2,this⟩:=run none 0 (by omega)
     have:c=0:=by omega
     subst this
     rename_i this
     rw[hN,hl0,hh0]at this
     simpa using this
    |true=>
     obtain⟨cs,c0,hx,hlay,hsz,hNc,hget⟩:=hrow.2 hb
     have hlay':=hlay.get g1
     have hsz:=hsz.resolve_left he0
     obtain⟨c,q1,q2,hr⟩:=run (some ⟨ρ.k id,(ρ.f id 0),none⟩) c0 hNc
     have hmul0:=Nat.mul_le_mul_right ks.length q2
     rw[←hx]at hr
     by_cases hcl:c=(l.den ρ).toNat
     ·rw[if_pos hcl]at hr
      refine fin true (ρ.k id) (ρ.f id 0) _ hr ⟨fun h=>(by cases h),fun _=>⟨cs,c-(l.den ρ).toNat,rfl,hlay,.inr ?_,by omega,fun i hi2=>by omega⟩⟩ (fun _=>⟨hb,rfl⟩)
      have:=Nat.mul_le_mul_right ks.length (show c-(l.den ρ).toNat≤c by omega)
      omega
     ·rw[if_neg hcl]at hr
      have hmul:=Nat.mul_le_mul_right ks.length (show(l.den ρ).toNat≤c by omega)
      refine fin true (ρ.k id) ((ρ.f id 0)+(l.den ρ).toNat*ks.length) _ (by simpa only[Option.map_some,ba] using hr) ⟨fun h=>(by cases h),fun _=>⟨cs,c-(l.den ρ).toNat,rfl,hlay,.inr ?_,by omega,fun i hi2 j v hvv=>?_⟩⟩ (fun _=>⟨hb,rfl⟩)
      ·rw[Nat.sub_mul];omega
      ·have h7:=hget (i+(l.den ρ).toNat) (by omega) j v (by
        unfold n8 at hvv⊢
        cases hkj:ks[j]? with
        |none=>rw[hkj]at hvv;cases hvv
        |some kk=>
         rw[hkj]at hvv
         rw[←hvv]
         exact congrArg some (o0 g2 j kk hkj _ _ _ _ _))
       rw[Nat.add_mul]at h7
       rw[←h7];congr 1;omega
  ·cases h
 ·cases h
end
section
variable [cg] [Fm]
def sK(ρ:ap)(n:Nat)(z:Nat→Nat→Int):ap:={ρ with l:=fun v=>if v=n then z else ρ.l v}
theorem OI(ρ:ap)(n:Nat)(z:Nat→Nat→Int):b7 n (n+1) ρ (sK ρ n z):=by
 constructor<;>intro v hv<;>first|rfl|(simp only[sK];rw[if_neg (by omega)])
def Hb(P:Program)(L:af)(n:Nat)(t tx:TypeId)(d s:SV):Option OR:=
 match P.underlying t,d,s with
 |some (.slice e),.lst id,.lst id2=>
  match ai (.h id) L,ai (.h id2) L with
  |some (.row true (.lst e1 [.int k] m le)),some (.row o (.lst e2 [.int k2] m2 le2))=>
   bif !(Nat.beq e1 0)&&(!(Nat.beq e2 0)&&(gw k k2&&(Nat.beq (match eZ P e with|some z=>z|none=>0) 1&&(m.avo n (n+1)&&(m2.avo n (n+1)&&le.avo n (n+1))))))then
    some ⟨[],[],.int .i64 (.mn (bf m2) (bf m)),[(.h id,.row true (.lst e1 [.int k] m (.var n)))],n+1⟩
   else none
  |_,_=>none
 |_,_,_=>none
theorem Hc{P:Program}{L:af}{n:Nat}{t tx ty:TypeId}{d s:SV}{r:OR}(h:Hb P L n t tx d s=some r):
 OpH P (fun ρ w=>(Builtin.copy_ #[t,tx] ty #[d.den ρ,s.den ρ]).run P w) L n r:=by
 intro C ρ w H hv hL
 unfold Hb at h
 split at h
 ·rename_i e id id2 ht
  split at h
  ·rename_i e1 k m le o e2 k2 m2 le2 hl hl2
   generalize hg:(!(Nat.beq e1 0)&&(!(Nat.beq e2 0)&&(gw k k2&&(Nat.beq (match eZ P e with|some z=>z|none=>0) 1&&(m.avo n (n+1)&&(m2.avo n (n+1)&&le.avo n (n+1)))))))=g at h
   cases g with
   |false=>cases h
   |true=>
    obtain rfl:=Option.some.inj h
    simp only[Bool.and_eq_true,Bool.not_eq_true']at hg
    obtain⟨g1,g2,g3,g4,g5,g6,g7⟩:=hg
    have hkk:=bY g3
    subst hkk
    have hz:(P.info? e).map (·.size)=some 1:=by
     have:=Nat.eq_of_beq_eq_true g4
     cases hs:eZ P e with
     |none=>rw[hs]at this;simp only at this;omega
     |some z=>rw[hs]at this;simp only at this;unfold eZ at hs;rw[hs,this]
    have h1:=(bz ρ id w e1 [.int k] m le).1 (H.rows id true _ hl)
    have h2:=(bz ρ id2 w e2 [.int k] m2 le2).1 (H.rows id2 o _ hl2)
    have e10:¬e1=0:=fun h=>by subst h;cases g1
    have e20:¬e2=0:=fun h=>by subst h;cases g2
    have hmin:((IE.mn (bf m2) (bf m)).den ρ)=(Nat.min (m2.den ρ).toNat (m.den ρ).toNat:Nat):=by
     simp only[IE.den,aP,mnI,Nat.min_def]
     by_cases hh:(m2.den ρ).toNat≤(m.den ρ).toNat
     ·rw[if_pos hh,if_neg (by omega)]
     ·rw[if_neg hh,if_pos (by omega)]
    have fin:∀(content:Nat→Nat→Int) (w':World),(Builtin.copy_ #[t,tx] ty #[ρ.x id,ρ.x id2]).run P w=.ok (goInt (Nat.min (m2.den ρ).toNat (m.den ρ).toNat)) w'→
     BX w w' (fun c=>ρ.b id=true∧c=ρ.k id)→fS w' e1 1 (m.den ρ).toNat (n8 ρ [.int k] content) (ρ.b id) (ρ.k id) (ρ.f id 0) (ρ.x id)→
     ∃ρ' w',(Builtin.copy_ #[t,tx] ty #[(SV.lst id).den ρ,(SV.lst id2).den ρ]).run P w=.ok ((SV.int .i64 (.mn (bf m2) (bf m))).den ρ') w'∧b7 n (n+1) ρ ρ'∧ar ρ' []∧
      HD C ρ' ([(aO.h id,aY.row true (.lst e1 [.int k] m (.var n)))]++L) w':=by
     intro content w' hr hst hrow
     have hag:=OI ρ n content
     refine⟨sK ρ n content,w',?_,hag,aj _,?_⟩
     ·rw[show(SV.lst id).den ρ=ρ.x id from rfl,show(SV.lst id2).den ρ=ρ.x id2 from rfl,hr]
      have:(IE.mn (bf m2) (bf m)).den (sK ρ n content)=(IE.mn (bf m2) (bf m)).den ρ:=by
       simp only[IE.den,aP,IE.ag hag m g5,IE.ag hag m2 g6]
      simp only[SV.den,this,hmin,goInt]
     ·have H2:=H.agr hag hL
      have ow:∀{i p q},ai (.h i) L=some (.row p q)→∀b,q.owns (sK ρ n content) i b↔q.owns ρ i b:=fun hq b=>am.ce hag (af.al hL hq).1 (af.al hL hq).2 b
      refine H2.step hst.os hst.tape hst.output hst.size (fun b hb=>hst.heap b (H2.keep_lt hb) fun hk=>H.own id _ hl b hk hb) (fun i p q hi hq b hb=>hst.heap b (H2.lt hq hb) fun hk=>H.apart hi hq hl (.inr rfl) ((ow hq b).1 hb) hk) ?_
       (fun _ b hb=>H.own id _ hl b hb) (fun h=>by cases h) (fun i p q hi hq _ b hb hc=>H.apart (fun e=>hi e.symm) hl hq (.inl rfl) hb ((ow hq b).1 hc))
      rw[bz]
      have:(LE.var n).den (sK ρ n content)=content:=by simp[LE.den,sK]
      rw[this,IE.ag hag m g5]
      exact hrow.mono fun i hi j v hvv=>hvv
    have none0:Nat.min (m2.den ρ).toNat (m.den ρ).toNat=0→(∃a c,ρ.x id=.slice a (m.den ρ).toNat c)→(∃a c,ρ.x id2=.slice a (m2.den ρ).toNat c)→
     ∃ρ' w',(Builtin.copy_ #[t,tx] ty #[(SV.lst id).den ρ,(SV.lst id2).den ρ]).run P w=.ok ((SV.int .i64 (.mn (bf m2) (bf m))).den ρ') w'∧b7 n (n+1) ρ ρ'∧ar ρ' []∧
      HD C ρ' ([(aO.h id,aY.row true (.lst e1 [.int k] m (.var n)))]++L) w':=by
     rintro h0 ⟨a,c,hx⟩ ⟨a2,c2,hx2⟩
     refine fin (le.den ρ) w ?_ ⟨rfl,rfl,rfl,Nat.le_refl _,fun _ _ _=>rfl⟩ h1
     rw[hx,hx2,run_copy_none w t tx ty e a a2 _ c _ c2 ht hz h0,h0];rfl
    have shape:∀{i N e V b k off},fS w e 1 N V b k off (ρ.x i)→¬e=0→∃a c,ρ.x i=.slice a N c:=by
     intro i N e V b k off hh he
     cases b with
     |false=>
      obtain⟨q1,q2⟩:=hh.1 rfl
      have:=q2.resolve_right fun h=>he h.1
      exact⟨none,0,by rw[this,q1]⟩
     |true=>obtain⟨cs,c,q,_⟩:=hh.2 rfl;exact⟨_,c,q⟩
    by_cases h0:Nat.min (m2.den ρ).toNat (m.den ρ).toNat=0
    ·exact none0 h0 (shape h1 e10) (shape h2 e20)
    ·have hpos:0<(m2.den ρ).toNat∧0<(m.den ρ).toNat:=⟨Nat.pos_of_ne_zero fun e=>h0 (by rw[e];exact Nat.zero_min _),Nat.pos_of_ne_zero fun e=>h0 (by rw[e];exact Nat.min_zero _)⟩
     have hb1:ρ.b id=true:=by
      cases hb:ρ.b id with
      |true=>rfl
      |false=>have:=(h1.1 hb).1;omega
     have hb2:ρ.b id2=true:=by
      cases hb:ρ.b id2 with
      |true=>rfl
      |false=>have:=(h2.1 hb).1;omega
     obtain⟨cs,c,hx,hlay,hsz,hNc,hget⟩:=h1.2 hb1
     obtain⟨cs2,c2,hx2,hlay2,hsz2,hNc2,hget2⟩:=h2.2 hb2
     have hlay:=hlay.get g1
     have hlay2:=hlay2.get g2
     have hsz:=hsz.resolve_left e10
     have hsz2:=hsz2.resolve_left e20
     simp only[List.length_cons,List.length_nil,Nat.zero_add,Nat.mul_one]at hsz hsz2
     have hbig:(ρ.f id 0)+(m.den ρ).toNat≤cs.size:=by omega
     let q:=Nat.min (m2.den ρ).toNat (m.den ρ).toNat
     have hq1:q≤(m2.den ρ).toNat:=Nat.min_le_left _ _
     have hq2:q≤(m.den ρ).toNat:=Nat.min_le_right _ _
     let news:List Value:=(List.range q).map fun j=>Value.int k (le2.den ρ j 0)
     have hnl:news.length=q:=by simp[news]
     have hng:∀j,j<q→news[j]? =some (.int k (le2.den ρ j 0)):=fun j hj=>by simp[news,hj]
     have src:∀j,j<q→cs2[(ρ.f id2 0)+j]? =some (.int k (le2.den ρ j 0)):=by
      intro j hj
      have:=hget2 j (by omega) 0 _ rfl
      simpa [CK.v] using this
     have hrun:=run_copy_cells (P:=P) w t tx ty e (ρ.k id) (ρ.f id 0) (m.den ρ).toNat c ⟨ρ.k id2,(ρ.f id2 0),none⟩ (m2.den ρ).toNat c2 news ht hz hnl
      (fun j v hvv=>by
        have hj:j<q:=by rw[←hnl];exact(List.getElem?_eq_some_iff.1 hvv).1
        rw[hng j hj]at hvv
        obtain rfl:=Option.some.inj hvv
        rw[ba,de hlay2];exact src j hj)
      (fun j hj=>by rw[de hlay,Array.getElem?_eq_getElem (by omega)];rfl)
      (fun j hj=>by simp[World.frozen?,hlay])
      (fun v hvv=>by obtain⟨j,_,rfl⟩:=List.mem_map.1 hvv;rfl)
     rw[dg news _ w cs hlay,hnl]at hrun
     refine fin (fun i j=>if i<q then le2.den ρ i 0 else le.den ρ i 0) (fh w (ρ.k id) (.cells (cA cs (ρ.f id 0) news) e1 (0,0))) (by rw[hx,hx2];exact hrun) ⟨rfl,rfl,rfl,by rw[lC];exact Nat.le_refl _,fun b hb hk=>er _ _ _ fun e=>hk ⟨hb1,e⟩⟩ ⟨fun h=>absurd (hb1.symm.trans h) (by decide),fun _=>⟨cA cs (ρ.f id 0) news,c,hx,.inl (bG _ _ _ (aw hlay)),.inr (by rw[cC,Nat.mul_one];exact hsz),hNc,fun i hi j v hvv=>?_⟩⟩
     have hj:j=0:=by
      have:=(o4 ρ [.int k] (fun i j=>if i<q then le2.den ρ i 0 else le.den ρ i 0) i j).1 (by rw[hvv];rfl)
      simp at this;exact this
     subst hj
     have hvv:Value.int k (if i<q then le2.den ρ i 0 else le.den ρ i 0)=v:=Option.some.inj hvv
     rw[df _ _ _ (by omega)]
     by_cases hiq:i<q
     ·rw[if_pos hiq]at hvv
      rw[if_pos ⟨by omega,by omega⟩,←hvv,←hng i hiq];congr 1;omega
     ·rw[if_neg hiq]at hvv
      rw[if_neg (by omega),←hvv]
      have:=hget i hi 0 _ rfl
      simpa [CK.v] using this
  ·cases h
 ·cases h
end
section
variable [cg] [Fm]
def a66:Option SV→Option (Option Nat)
 |none=>some none
 |some (.int _ (.lit (.ofNat a)))=>some (some a)
 |_=>none
def WH(P:Program)(t:TypeId)(s:SV)(lo hi:Option SV):Option SV:=
 match P.underlying t,s,a66 lo,a66 hi with
 |some (.array N e),.ptr (.at id o),some l0,some h0=>
  match eZ P e with
  |some z=>
   let l:=match l0 with|some x=>x|none=>0
   let h:=match h0 with|some x=>x|none=>N
   bif Nat.ble l h&&(Nat.ble h N&&Nat.blt l N)then some (.sl (.at id (o+l*z)) (.lit (.ofNat (h-l))) (.lit (.ofNat (N-l))))else none
  |none=>none
 |_,_,_,_=>none
theorem BZ{s:Option SV}{a:Option Nat}(h:a66 s=some a)(ρ:ap):(a=none∧s=none)∨∃k n,a=some n∧s.map (SV.den ρ)=some (.int k (n:Int)):=by
 unfold a66 at h
 split at h
 ·exact .inl ⟨(Option.some.inj h).symm,rfl⟩
 ·rename_i k n;exact .inr ⟨k,n,(Option.some.inj h).symm,rfl⟩
 ·cases h
theorem OJ{P:Program}{t:TypeId}{s x:SV}{lo hi:Option SV}(h:WH P t s lo hi=some x)(ρ:ap)(w:World):
 (Instr.sliceAt t (s.den ρ) (lo.map (SV.den ρ)) (hi.map (SV.den ρ)) none).run P w=.ok (x.den ρ) w:=by
 unfold WH at h
 split at h
 ·rename_i N e id o l0 h0 ht hlo hhi
  split at h
  ·rename_i z hz
   simp only at h
   generalize hll:(match l0 with|some x=>x|none=>0)=l at h
   generalize hhh:(match h0 with|some x=>x|none=>N)=hh at h
   cases hb:(Nat.ble l hh&&(Nat.ble hh N&&Nat.blt l N))
   ·rw[hb]at h;cases h
   rw[hb]at h
   obtain rfl:=Option.some.inj h
   simp only[Bool.and_eq_true]at hb
   have b1:=Nat.le_of_ble_eq_true hb.1
   have b2:=Nat.le_of_ble_eq_true hb.2.1
   have b3:l+1≤N:=Nat.le_of_ble_eq_true hb.2.2
   have hne:¬N=l:=by omega
   have hbd:(Instr.sliceBounds false N N (lo.map (SV.den ρ)) (hi.map (SV.den ρ)) none).run P w=.ok (l,hh,N) w:=by
    have bb:∀(k:IntKind) (a y:Nat) code,a≤y→(Instr.sliceBound (.int k (a:Int)) y code).run P w=.ok a w:=fun k a y code hy=>by
     have:=run_sliceBound (P:=P) w k (a:Int) y code (by omega) (by omega)
     simpa using this
    rcases BZ hlo ρ with⟨rfl,rfl⟩|⟨k1,a1,rfl,e1⟩<;>rcases BZ hhi ρ with⟨rfl,rfl⟩|⟨k2,a2,rfl,e2⟩<;>simp only at hll hhh<;>subst hll<;>subst hhh
    ·simp[Instr.sliceBounds]
    ·simp[Instr.sliceBounds,e2,bb k2 _ N _ b2]
    ·simp[Instr.sliceBounds,e1,bb k1 _ _ _ b1]
    ·simp[Instr.sliceBounds,e1,e2,bb k2 _ N _ b2,bb k1 _ _ _ b1]
   simp only[SV.den,PT.addr,Instr.sliceAt,Sem.run_bind,aR w ht,Result.andThen_ok,Instr.sureAddr,Sem.run_pure,hbd,bC w hz,if_neg hne,ba,IE.den]
   rfl
  ·cases h
 ·cases h
def Hd(P:Program)(L:af)(t:TypeId)(d s:SV):Option (SV×af):=
 match P.underlying t,d,s with
 |some (.slice e),.sl (.at id o) (.lit (.ofNat a)) _,.sl (.at id2 o2) (.lit (.ofNat b)) _=>
  match ai (.h id) L,ai (.h id2) L with
  |some (.row true (.cells el l)),some (.row _ (.cells _ l2))=>
   let q:=bif Nat.ble b a then b else a
   let vs:=(l2.drop o2).take q
   bif Nat.beq (match eZ P e with|some z=>z|none=>0) 1&&(Nat.beq vs.length q&&(Nat.ble (o+q) l.length&&vs.all (SV.one L)))then
    some (.int .i64 (.lit (.ofNat q)),[(.h id,.row true (.cells el (l.take o++(vs++l.drop (o+vs.length)))))])
   else none
  |_,_=>none
 |_,_,_=>none
theorem He{P:Program}{C:bp}{ρ:ap}{L:af}{w:World}(H:HD C ρ L w){t tx ty:TypeId}{d s x:SV}{lg:af}(h:Hd P L t d s=some (x,lg)):
 ∃w',(Builtin.copy_ #[t,tx] ty #[d.den ρ,s.den ρ]).run P w=.ok (x.den ρ) w'∧HD C ρ (lg++L) w':=by
 unfold Hd at h
 split at h
 ·rename_i e id o a ca id2 o2 b cb ht
  split at h
  ·rename_i el l ow el2 l2 hl hl2
   simp only at h
   generalize hq:(bif Nat.ble b a then b else a)=q at h
   generalize hvs:(l2.drop o2).take q=vs at h
   cases hb:(Nat.beq (match eZ P e with|some z=>z|none=>0) 1&&(Nat.beq vs.length q&&(Nat.ble (o+q) l.length&&vs.all (SV.one L))))
   ·rw[hb]at h;cases h
   rw[hb]at h
   simp only[cond_true,Option.some.injEq,Prod.mk.injEq]at h
   obtain⟨rfl,rfl⟩:=h
   simp only[Bool.and_eq_true]at hb
   obtain⟨g1,g2,g3,g4⟩:=hb
   have hlen:=Nat.eq_of_beq_eq_true g2
   have hle:=Nat.le_of_ble_eq_true g3
   have hz:(P.info? e).map (·.size)=some 1:=by
    have:=Nat.eq_of_beq_eq_true g1
    cases hs:eZ P e with
    |none=>rw[hs]at this;simp only at this;omega
    |some z=>rw[hs]at this;simp only at this;unfold eZ at hs;rw[hs,this]
   have h1:=H.rows id true _ hl
   have h2:=H.rows id2 ow _ hl2
   simp only[am.holds]at h1 h2
   have hqm:q=Nat.min b a:=by
    rw[←hq]
    show _=min b a
    rw[Nat.min_def]
    cases hb:Nat.ble b a with
    |true=>rw[if_pos (Nat.le_of_ble_eq_true hb)];rfl
    |false=>rw[if_neg (fun h=>by rw[Nat.ble_eq_true_of_le h]at hb;cases hb)];rfl
   have hrun:=run_copy_cells (P:=P) w t tx ty e (ρ.k id) o a (ca.den ρ).toNat ⟨ρ.k id2,o2,none⟩ b (cb.den ρ).toNat (vs.map (SV.den ρ)) ht hz (by rw[List.length_map,hlen,hqm])
    (fun j v hvv=>by
      rw[List.getElem?_map]at hvv
      cases hj:vs[j]? with
      |none=>rw[hj]at hvv;cases hvv
      |some sv=>
       rw[hj]at hvv
       obtain rfl:=Option.some.inj hvv
       have hjq:j<q:=by rw[←hlen];exact(List.getElem?_eq_some_iff.1 hj).1
       rw[←hvs,List.getElem?_take_of_lt hjq,List.getElem?_drop]at hj
       rw[ba,de h2,List.getElem?_toArray,List.getElem?_map,hj];rfl)
    (fun j hj=>by
      rw[List.length_map,hlen]at hj
      rw[de h1,Array.getElem?_eq_getElem (by simp;omega)];rfl)
    (fun j hj=>by simp[World.frozen?,h1])
    (fun v hvv=>by obtain⟨sv,hm,rfl⟩:=List.mem_map.1 hvv;exact SV.wG H (List.all_eq_true.1 g4 sv hm))
   rw[dg _ o w _ h1,List.length_map,hlen]at hrun
   refine⟨_,hrun,?_⟩
   refine H.put hl (b:=ρ.k id) rfl (fun c=>Iff.rfl) ?_
   simp only[am.holds]
   rw[bG _ _ _ (aw h1),gC ρ l vs o (by rw[hlen];exact hle)]
  ·cases h
 ·cases h
end
section
variable [cg] [Fm]
def MS(P:Program)(t:TypeId)(l:List SV)(o:Nat):Option SV:=
 match BQ P t with
 |some true=>match eZ P t with
  |some z=>let r:=(l.drop o).take z;bif Nat.beq r.length z then some (.agg r)else none
  |none=>none
 |some false=>l[o]?
 |none=>none
theorem uN{P:Program}{t:TypeId}{l:List SV}{o:Nat}{x:SV}(h:MS P t l o=some x)(ρ:ap)(w:World):(part t (l.map (SV.den ρ)).toArray o).run P w=.ok (x.den ρ) w:=by
 unfold MS at h
 split at h
 ·rename_i ha
  split at h
  ·rename_i z hz
   simp only at h
   cases hb:Nat.beq ((l.drop o).take z).length z
   ·rw[hb]at h;cases h
   ·rw[hb]at h
    obtain rfl:=Option.some.inj h
    have hlen:=Nat.eq_of_beq_eq_true hb
    simp only[part,Sem.run_bind,jG w ha,Result.andThen_ok,if_true,bC w hz,Sem.run_pure,SV.den,SV.b9]
    congr 2
    apply Array.ext_getElem?
    intro j
    rw[Array.getElem?_extract]
    simp only[List.size_toArray,List.length_map,List.getElem?_toArray,List.getElem?_map]
    rw[List.length_take,List.length_drop]at hlen
    by_cases hj:j<z
    ·rw[if_pos (by omega),List.getElem?_take_of_lt hj,List.getElem?_drop]
    ·rw[if_neg (by omega),List.getElem?_eq_none (by rw[List.length_take,List.length_drop];omega)];rfl
  ·cases h
 ·rename_i ha
  simp[part,jG w ha,h]
 ·cases h
def wL(P:Program)(t:TypeId)(s:SV)(f:Nat):Option SV:=
 match P.underlying t,s with
 |some (.struct fs),.agg l=>match fs[f]? with
  |some fd=>MS P fd.type l fd.offset
  |none=>none
 |_,_=>none
theorem C0{P:Program}{t:TypeId}{s x:SV}{f:Nat}(h:wL P t s f=some x)(ρ:ap)(w:World):(Instr.field t (s.den ρ) f).run P w=.ok (x.den ρ) w:=by
 unfold wL at h
 split at h
 ·rename_i fs l hu
  split at h
  ·rename_i fd hf
   have:=uN h ρ w
   simp only[Instr.field,Sem.run_bind,aR w hu,Result.andThen_ok,hf,SV.den,SV.b9,asAgg,Sem.run_pure,this]
  ·cases h
 ·cases h
def wM(P:Program)(t:TypeId)(s i:SV):Option SV:=
 match P.underlying t,s,i with
 |some (.array N e),.agg l,.int k (.lit (.ofNat j))=>match eZ P e with
  |some z=>bif Nat.blt j N then MS P e l (j*z)else none
  |none=>none
 |_,_,_=>none
theorem C1{P:Program}{t:TypeId}{s i x:SV}(h:wM P t s i=some x)(ρ:ap)(w:World):(Instr.index t (s.den ρ) (i.den ρ)).run P w=.ok (x.den ρ) w:=by
 unfold wM at h
 split at h
 ·rename_i N e l k j hu
  split at h
  ·rename_i z hz
   cases hb:Nat.blt j N
   ·rw[hb]at h;cases h
   ·rw[hb]at h
    have hj:j+1≤N:=Nat.le_of_ble_eq_true hb
    have:=uN h ρ w
    have hc:(0:Int)≤(j:Int)∧(j:Int)<(N:Int):=⟨by omega,by omega⟩
    simp only[Instr.index,asIntOf,Sem.run_bind,Sem.run_pure,Result.andThen_ok,aR w hu,SV.den,SV.b9,IE.den]
    rw[if_pos (show(0:Int)≤Int.ofNat j∧Int.ofNat j<(N:Int)from hc)]
    simp only[Sem.run_bind,bC w hz,Result.andThen_ok,this,Int.ofNat_eq_natCast,Int.toNat_natCast]
  ·cases h
 ·cases h
def WI(P:Program)(L:af)(op:BinOp)(t:TypeId)(x y:SV):Option (List F×SV):=
 match x,y,P.underlying t with
 |.lst id,.nils,some (.slice _)=>match ai (.h id) L with
  |some (.row _ (.lst e _ m _))=>bif Nat.beq e 0 then none else
   match op with
   |.eql=>some ([.imp (.not (.var id)) (.be (.cmp .leq m (.lit 0)))],.b (.not (.var id)))
   |.neq=>some ([.imp (.not (.var id)) (.be (.cmp .leq m (.lit 0)))],.b (.var id))
   |_=>none
  |_=>none
 |_,_,_=>none
theorem OL{P:Program}{C:bp}{ρ:ap}{L:af}{w:World}(H:HD C ρ L w){op:BinOp}{t:TypeId}{x y s:SV}{fs:List F}(h:WI P L op t x y=some (fs,s))(ox oy:Operand):
 ((do eqGuard op t ox oy (x.den ρ) (y.den ρ);binOp op t (x.den ρ) (y.den ρ):Sem Value)).run P w=.ok (s.den ρ) w∧ar ρ fs:=by
 unfold WI at h
 split at h
 ·rename_i id el hu
  split at h
  ·rename_i o e ks m le hl
   cases he:Nat.beq e 0
   ·rw[he]at h
    simp only[cond_false]at h
    have he0:¬e=0:=fun h=>by subst h;cases he
    have hrow:=H.rows id o _ hl
    have hx:ρ.x id=.slice none 0 0∧ρ.b id=false∧(m.den ρ).toNat=0∨(∃a n c,ρ.x id=.slice (some a) n c)∧ρ.b id=true:=by
     cases hb:ρ.b id with
     |false=>obtain⟨h1,h2⟩:=hrow.1 hb;exact .inl ⟨h2.resolve_right fun h=>he0 h.1,rfl,h1⟩
     |true=>obtain⟨cs,c,h1,_⟩:=hrow.2 hb;exact .inr ⟨⟨_,_,_,h1⟩,rfl⟩
    have hfs:ar ρ [.imp (.not (.var id)) (.be (.cmp .leq m (.lit 0)))]:=by
     refine aa.2 ⟨fun hb=>?_,aj _⟩
     rcases hx with⟨_,_,h0⟩|⟨_,hb2⟩
     ·show decide (m.den ρ≤0)=true
      exact decide_eq_true (by omega)
     ·simp only[BE.den,hb2]at hb;cases hb
    have hg:∀(v:Value),(∃a n c,v=.slice a n c)→(eqGuard op t ox oy v (.slice none 0 0)).run P w=.ok () w:=by
     rintro v ⟨a,n,c,rfl⟩;unfold eqGuard;cases op<;>rfl
    have hv:∃a n c,ρ.x id=.slice a n c:=by
     rcases hx with⟨h1,_⟩|⟨⟨a,n,c,h1⟩,_⟩<;>exact⟨_,_,_,h1⟩
    have hr:(Op.equal t (ρ.x id) (.slice none 0 0)).run P w=.ok (!(ρ.b id)) w:=by
     rcases hx with⟨h1,h2,_⟩|⟨⟨a,n,c,h1⟩,h2⟩
     ·rw[h1,h2];show(Op.equalIn (9999+1) t _ _).run P w=_;unfold Op.equalIn;rw[Sem.run_bind,aR w hu];rfl
     ·rw[h1,h2];show(Op.equalIn (9999+1) t _ _).run P w=_;unfold Op.equalIn;rw[Sem.run_bind,aR w hu];rfl
    obtain⟨a,n,c,hv⟩:=hv
    split at h
    ·simp only[Option.some.injEq,Prod.mk.injEq]at h;obtain⟨rfl,rfl⟩:=h
     refine⟨?_,hfs⟩
     simp only[SV.den]at hr hg⊢
     rw[Sem.run_bind,hg _ ⟨a,n,c,hv⟩,Result.andThen_ok]
     rw[hv]at hr⊢
     show((do pure (.bool (←Op.equal t (.slice a n c) (.slice none 0 0))):Sem Value)).run P w=_
     simp only[Sem.run_bind,hr,Result.andThen_ok,Sem.run_pure,BE.den]
    ·simp only[Option.some.injEq,Prod.mk.injEq]at h;obtain⟨rfl,rfl⟩:=h
     refine⟨?_,hfs⟩
     simp only[SV.den]at hr hg⊢
     rw[Sem.run_bind,hg _ ⟨a,n,c,hv⟩,Result.andThen_ok]
     rw[hv]at hr⊢
     show((do pure (.bool (!(←Op.equal t (.slice a n c) (.slice none 0 0)))):Sem Value)).run P w=_
     simp only[Sem.run_bind,hr,Result.andThen_ok,Sem.run_pure,BE.den,Bool.not_not]
    ·cases h
   ·rw[he]at h;cases h
  ·cases h
 ·cases h
theorem dL{P:Program}{w:World}{r:Nat}{es:Array MapEntry}{clk:Nat}(hb:w.heap[r]? =some (.map es clk)):(getObj r).run P w=.ok (.map es clk) w:=by simp[getObj,Sem.run,hb]
theorem kW{P:Program}{w:World}{r:Nat}{es:Array MapEntry}{clk:Nat}(o:Obj)(hb:w.heap[r]? =some (.map es clk)):(setObj r o).run P w=.ok () (fh w r o):=by simp[setObj,Sem.run,hb,fh]
def o7(P:Program)(t:TypeId):Bool:=
 match P.underlying t with
 |some (.int .i64)=>true
 |_=>false
theorem wN{P:Program}{t:TypeId}(h:o7 P t=true):P.underlying t=some (.int .i64):=by
 unfold o7 at h;split at h
 ·assumption
 ·cases h
def Hf(P:Program)(n:Nat)(t:TypeId):Option OR:=
 match P.underlying t with
 |some (.map k v)=>bif o7 P k then
  bif o7 P v then some ⟨[],[],.map n,[(.h n,.row true (.mi []))],n+1⟩else some ⟨[],[],.map n,[(.h n,.row true (.mp (some [])))],n+1⟩
  else none
 |_=>none
theorem Hg{P:Program}{L:af}{n:Nat}{t:TypeId}{r:OR}(h:Hf P n t=some r):OpH P (fun ρ w=>(Instr.makeMap t none).run P w) L n r:=by
 intro C ρ w H hv hL
 unfold Hf at h
 split at h
 ·rename_i k v ht
  have fin:∀(q:am),q=.mi []∨q=.mp (some [])→(⟨[],[],.map n,[(.h n,.row true q)],n+1⟩:OR)=r→
   ∃ρ' w',(Instr.makeMap t none).run P w=.ok (r.val.den ρ') w'∧b7 n r.nxt ρ ρ'∧ar ρ' r.facts∧HD C ρ' (r.log++L) w':=by
   rintro l hl rfl
   refine⟨sD ρ n w.heap.size,w.alloc (.map #[] 0),?_,kV _ _ _,aj _,H.new hL (fun c hc=>?_) ?_⟩
   ·simp[Instr.makeMap,SV.den,jI,run_newObj]
   ·rcases hl with rfl|rfl<;>(simp only[am.owns,jI]at hc;exact hc)
   ·rcases hl with rfl|rfl
    ·simp only[am.holds,jI]
     exact⟨#[],0,by show(w.heap.push _)[w.heap.size]? =_;rw[Array.getElem?_push_size],rfl,fun e he=>by simp at he⟩
    ·simp only[am.holds,jI]
     exact⟨#[],0,by show(w.heap.push _)[w.heap.size]? =_;rw[Array.getElem?_push_size],rfl⟩
  cases hk:o7 P k
  ·rw[hk]at h;cases h
  ·rw[hk]at h
   simp only[cond_true]at h
   cases hv2:o7 P v
   ·rw[hv2]at h;exact fin _ (.inr rfl) (Option.some.inj h)
   ·rw[hv2]at h;exact fin _ (.inl rfl) (Option.some.inj h)
 ·cases h
theorem o8{a:Int}:∀(es:List MapEntry) (l:List (Int×Nat)) (i:Nat),es.map (fun e=>(e.key,e.val))=l.map (fun p=>(Value.int .i64 p.1,Value.func (.func p.2) #[] #[]))→(∀p,p∈l→p.1≠a)→Instr.findNow (.int .i64) (.int .i64 a) es i=some none
 |[],l,i,_,_=>rfl
 |e::es,[],i,h,_=>by simp at h
 |e::es,p::l,i,h,hp=>by
  simp only[List.map_cons,List.cons.injEq,Prod.mk.injEq]at h
  obtain⟨⟨h1,h2⟩,h3⟩:=h
  have:(a==p.1)=false:=by simp;exact fun e=>hp p (.head _) e.symm
  simp only[Instr.findNow,h1,Instr.sameNow,if_true,this]
  exact o8 es l (i+1) h3 fun q hq=>hp q (.tail _ hq)
theorem cB{P:Program}{w:World}{t:TypeId}(h:P.underlying t=some (.int .i64))(b:Bool)(a:Int):(Instr.checkKey b 10000 t (.int .i64 a)).run P w=.ok () w:=by
 show(Instr.checkKey b (9999+1) t (.int .i64 a)).run P w=_
 unfold Instr.checkKey
 rw[Sem.run_bind,aR w h];rfl
def sL(a:Int):List (Int×Nat)→Bool
 |[]=>false
 |p::r=>iEq p.1 a||sL a r
theorem C2(a:Int):iEq a a=true:=by cases a<;>simp[iEq]
theorem uO{a:Int}:∀{l:List (Int×Nat)},sL a l=false→∀p,p∈l→p.1≠a
 |[],_,p,hp=>by cases hp
 |q::r,h,p,hp=>by
  simp only[sL,Bool.or_eq_false_iff]at h
  cases hp with
  |head=>intro e;rw[e,C2]at h;cases h.1
  |tail _ hp=>exact uO h.2 p hp
def wO(a:Int):List Int→Bool
 |[]=>false
 |p::r=>iEq p a||wO a r
theorem C3{a:Int}:∀{l:List Int},wO a l=true→a∈l
 |p::r,h=>by
  simp only[wO,Bool.or_eq_true]at h
  rcases h with h|h
  ·rw[sw h];exact .head _
  ·exact .tail _ (C3 h)
theorem MT{a:Int}:∀{l:List Int},wO a l=false→∀p,p∈l→p≠a
 |q::r,h,p,hp=>by
  simp only[wO,Bool.or_eq_false_iff]at h
  cases hp with
  |head=>intro e;rw[e,C2]at h;cases h.1
  |tail _ hp=>exact MT h.2 p hp
def sM(l:List Int):IE→am
 |.lit a=>bif wO a l then .mi l else .mi (l++[a])
 |_=> .mp none
theorem sN{ρ:ap}{id:Nat}{l:List Int}{a:IE}(b:Nat):(sM l a).owns ρ id b↔b=ρ.k id:=by
 unfold sM;split
 ·rename_i x;cases wO x l<;>exact Iff.rfl
 ·exact Iff.rfl
theorem OM{ρ:ap}{id:Nat}{l:List Int}{a:IE}{w:World}{es:List MapEntry}{es2:Array MapEntry}{clk:Nat}(hb:w.heap[ρ.k id]? =some (.map es2 clk)){y:Int}{bn:Nat}(h2:es2.toList=es++[{key:=.int .i64 (a.den ρ),val:=.int .i64 y,born:=bn}])
 (h:es.map (fun e=>e.key)=l.map (Value.int .i64)) (hv:∀e,e∈es→∃b,e.val=.int .i64 b) (hn:∀e,e∈es→e.key≠.int .i64 (a.den ρ)):(sM l a).holds ρ id w:=by
 have hv2:∀e,e∈es2.toList→∃b,e.val=.int .i64 b:=by
  intro e he;rw[h2,List.mem_append,List.mem_singleton]at he
  rcases he with he|rfl
  ·exact hv e he
  ·exact⟨_,rfl⟩
 unfold sM
 split
 ·rename_i x
  cases hx:wO x l
  ·simp only[cond_false,am.holds]
   refine⟨es2,clk,hb,?_,hv2⟩
   rw[h2];simp[h,IE.den]
  ·exfalso
   have hm:Value.int .i64 x∈es.map (fun e=>e.key):=by rw[h];exact List.mem_map.2 ⟨x,C3 hx,rfl⟩
   obtain⟨e,he,hek⟩:=List.mem_map.1 hm
   exact hn e he hek
 ·simp only[am.holds]
  refine⟨es2,clk,hb,fun e he=>⟨?_,hv2 e he⟩⟩
  rw[h2,List.mem_append,List.mem_singleton]at he
  rcases he with he|rfl
  ·have:e.key∈l.map (Value.int .i64):=by rw[←h];exact List.mem_map.2 ⟨e,he,rfl⟩
   obtain⟨x,_,hx⟩:=List.mem_map.1 this
   exact⟨x,hx.symm⟩
  ·exact⟨_,rfl⟩
theorem ON{ρ:ap}{id:Nat}{l:List Int}{a:IE}{w:World}{es2:Array MapEntry}{clk:Nat}(hb:w.heap[ρ.k id]? =some (.map es2 clk))
 (h:es2.toList.map (fun e=>e.key)=l.map (Value.int .i64)) (hv:∀e,e∈es2.toList→∃b,e.val=.int .i64 b) (hn:∃e,e∈es2.toList∧e.key=.int .i64 (a.den ρ)):(sM l a).holds ρ id w:=by
 unfold sM
 split
 ·rename_i x
  cases hx:wO x l
  ·exfalso
   obtain⟨e,he,hek⟩:=hn
   have:e.key∈l.map (Value.int .i64):=by rw[←h];exact List.mem_map.2 ⟨e,he,rfl⟩
   rw[hek]at this
   obtain⟨q,hq,hqe⟩:=List.mem_map.1 this
   simp only[IE.den,Value.int.injEq,true_and]at hqe
   exact MT hx q hq hqe
  ·simp only[cond_true,am.holds]
   exact⟨es2,clk,hb,h,hv⟩
 ·simp only[am.holds]
  refine⟨es2,clk,hb,fun e he=>⟨?_,hv e he⟩⟩
  have:e.key∈l.map (Value.int .i64):=by rw[←h];exact List.mem_map.2 ⟨e,he,rfl⟩
  obtain⟨x,_,hx⟩:=List.mem_map.1 this
  exact⟨x,hx.symm⟩
theorem WJ{ρ:ap}{id:Nat}{l:List Int}{w:World}(h:(am.mi l).holds ρ id w):(am.mp none).holds ρ id w:=by
 obtain⟨es,clk,hb,hk,hv⟩:=h
 refine⟨es,clk,hb,fun e he=>⟨?_,hv e he⟩⟩
 have:e.key∈l.map (Value.int .i64):=by rw[←hk];exact List.mem_map.2 ⟨e,he,rfl⟩
 obtain⟨x,_,hx⟩:=List.mem_map.1 this
 exact⟨x,hx.symm⟩
theorem qJ{a:Int}:∀(es:List MapEntry) (i:Nat),(∀e,e∈es→∃a,e.key=.int .i64 a)→Instr.findNow (.int .i64) (.int .i64 a) es i=some none→∀e,e∈es→e.key≠.int .i64 a
 |e::es,i,h,hf,e',he'=>by
  obtain⟨x,hx⟩:=h e (.head _)
  by_cases hax:a=x
  ·subst hax
   simp only[Instr.findNow,hx,Instr.sameNow,if_true,beq_self_eq_true]at hf
   cases hf
  ·have hn:(a==x)=false:=by simp[hax]
   simp only[Instr.findNow,hx,Instr.sameNow,if_true,hn]at hf
   cases he' with
   |head=>rw[hx];intro e;injection e with _ e;exact hax e.symm
   |tail _ he'=>exact qJ es (i+1) (fun e he=>h e (.tail _ he)) hf e' he'
def rT(P:Program)(L:af)(n:Nat)(t:TypeId)(m k v:SV):Option OR:=
 match P.underlying t,m with
 |some (.map kt _),.map id=>
  bif o7 P kt then
   match ai (.h id) L,k,v with
   |some (.row true (.mp (some l))),.int .i64 (.lit a),.fn (.func f) [] []=>bif sL a l then none else some ⟨[],[],.tup [],[(.h id,.row true (.mp (some (l++[(a,f)]))))],n⟩
   |some (.row true (.mp none)),.int .i64 _,.int .i64 _=>some ⟨[],[],.tup [],[(.h id,.row true (.mp none))],n⟩
   |some (.row true (.mi l)),.int .i64 a,.int .i64 _=>some ⟨[],[],.tup [],[(.h id,.row true (sM l a))],n⟩
   |_,_,_=>none
  else none
 |_,_=>none
theorem fT{a:Int}:∀(es:List MapEntry) (i:Nat),(∀e,e∈es→(∃a,e.key=.int .i64 a)∧∃b,e.val=.int .i64 b)→Instr.findNow (.int .i64) (.int .i64 a) es i=some none∨∃j b c,Instr.findNow (.int .i64) (.int .i64 a) es i=some (some (i+j,.int .i64 b))∧es[j]? =some c∧c.key=.int .i64 a
 |[],i,_=> .inl rfl
 |e::es,i,h=>by
  obtain⟨⟨x,hx⟩,y,hy⟩:=h e (.head _)
  by_cases hax:a=x
  ·subst hax
   refine .inr ⟨0,y,e,?_,rfl,hx⟩
   simp only[Instr.findNow,hx,Instr.sameNow,if_true,beq_self_eq_true,hy,Nat.add_zero]
  ·have:(a==x)=false:=by simp[hax]
   simp only[Instr.findNow,hx,Instr.sameNow,if_true,this]
   rcases fT es (i+1) (fun e he=>h e (.tail _ he))with h1|⟨j,b,c,h1,h2,h3⟩
   ·exact .inl h1
   ·exact .inr ⟨j+1,b,c,by rw[h1];congr 3;omega,h2,h3⟩
theorem qK{P:Program}{L:af}{n:Nat}{t:TypeId}{m k v:SV}{r:OR}(h:rT P L n t m k v=some r):
 ∀(C:bp) (ρ:ap) (w:World),HD C ρ L w→∃w',(Instr.mapUpdate t (m.den ρ) (k.den ρ) (v.den ρ)).run P w=.ok () w'∧r.vcs=[]∧r.facts=[]∧r.val=.tup []∧r.nxt=n∧HD C ρ (r.log++L) w':=by
 intro C ρ w H
 unfold rT at h
 split at h
 ·rename_i kt vt id ht
  cases hk:o7 P kt
  ·rw[hk]at h;cases h
  rw[hk]at h
  simp only[cond_true]at h
  have hkt:=wN hk
  split at h
  ·rename_i l a f hl
   cases hh:sL a l
   ·rw[hh]at h
    obtain rfl:=Option.some.inj h
    obtain⟨es,clk,hb,hes⟩:=H.rows id true _ hl
    have hf:=o8 es.toList l 0 hes (uO hh)
    refine⟨fh w (ρ.k id) (.map (es.push {key:=.int .i64 a,val:=.func (.func f) #[] #[],born:=clk}) (clk+1)),?_,rfl,rfl,rfl,rfl,?_⟩
    ·simp only[Instr.mapUpdate,Sem.run_bind,aR w ht,Result.andThen_ok,SV.den,IE.den,SV.dens,dL hb,cB hkt,Instr.findKey,aR w hkt,hf,Sem.run_pure]
     exact kW _ hb
    ·refine H.put hl (b:=ρ.k id) rfl (fun c=>Iff.rfl) ?_
     simp only[am.holds]
     exact⟨_,_,bG _ _ _ (aw hb),by simp[hes]⟩
   ·rw[hh]at h;cases h
  ·rename_i a b hl
   obtain rfl:=Option.some.inj h
   obtain⟨es,clk,hb,hes⟩:=H.rows id true _ hl
   rcases fT (a:=a.den ρ) es.toList 0 hes with hf|⟨j,y,c,hf,hc,hck⟩
   ·refine⟨fh w (ρ.k id) (.map (es.push {key:=.int .i64 (a.den ρ),val:=.int .i64 (b.den ρ),born:=clk}) (clk+1)),?_,rfl,rfl,rfl,rfl,?_⟩
    ·simp only[Instr.mapUpdate,Sem.run_bind,aR w ht,Result.andThen_ok,SV.den,dL hb,cB hkt,Instr.findKey,aR w hkt,hf,Sem.run_pure]
     exact kW _ hb
    ·refine H.put hl (b:=ρ.k id) rfl (fun c=>Iff.rfl) ?_
     simp only[am.holds]
     refine⟨_,_,bG _ _ _ (aw hb),fun e he=>?_⟩
     rw[Array.toList_push,List.mem_append,List.mem_singleton]at he
     rcases he with he|rfl
     ·exact hes e he
     ·exact⟨⟨_,rfl⟩,_,rfl⟩
   ·have hkey:(Instr.keyThatStays (((es[0+j]?).map (·.key)).getD (.int .i64 (a.den ρ))) (.int .i64 (a.den ρ))).run P w=.ok (.int .i64 (a.den ρ)) w:=by
     have:es[0+j]? =some c:=by rw[Nat.zero_add,←Array.getElem?_toList];exact hc
     rw[this]
     simp only[Option.map_some,Option.getD_some,hck]
     unfold Instr.keyThatStays
     rw[if_pos (by show(IntKind.i64==IntKind.i64&&a.den ρ==a.den ρ)=true;simp)]
     rfl
    refine⟨fh w (ρ.k id) (.map (es.modify (0+j) fun e=>{e with key:=.int .i64 (a.den ρ),val:=.int .i64 (b.den ρ)}) clk),?_,rfl,rfl,rfl,rfl,?_⟩
    ·simp only[Instr.mapUpdate,Sem.run_bind,aR w ht,Result.andThen_ok,SV.den,dL hb,cB hkt,Instr.findKey,aR w hkt,hf,Sem.run_pure,hkey]
     exact kW _ hb
    ·refine H.put hl (b:=ρ.k id) rfl (fun c=>Iff.rfl) ?_
     simp only[am.holds]
     refine⟨_,_,bG _ _ _ (aw hb),fun e he=>?_⟩
     rw[Array.toList_modify]at he
     obtain⟨q,hq⟩:=List.mem_iff_getElem?.1 he
     rw[List.getElem?_modify]at hq
     cases hq2:es.toList[q]? with
     |none=>rw[hq2]at hq;cases hq
     |some e2=>
      rw[hq2]at hq
      have hq:(if 0+j=q then{e2 with key:=.int .i64 (a.den ρ),val:=.int .i64 (b.den ρ)}else e2)=e:=Option.some.inj hq
      by_cases hqj:0+j=q
      ·rw[if_pos hqj]at hq;rw[←hq];exact⟨⟨_,rfl⟩,_,rfl⟩
      ·rw[if_neg hqj]at hq;rw[←hq];exact hes e2 (List.mem_of_getElem? hq2)
  ·rename_i l a b hl
   obtain rfl:=Option.some.inj h
   have hrow:=H.rows id true _ hl
   obtain⟨es,clk,hb,hes,hev⟩:=hrow
   obtain⟨_,_,hb2,hes2⟩:=WJ (H.rows id true _ hl)
   rw[hb]at hb2
   injection hb2 with hb2
   injection hb2 with hb2 _
   subst hb2
   rcases fT (a:=a.den ρ) es.toList 0 hes2 with hf|⟨j,y,c,hf,hc,hck⟩
   ·refine⟨fh w (ρ.k id) (.map (es.push {key:=.int .i64 (a.den ρ),val:=.int .i64 (b.den ρ),born:=clk}) (clk+1)),?_,rfl,rfl,rfl,rfl,?_⟩
    ·simp only[Instr.mapUpdate,Sem.run_bind,aR w ht,Result.andThen_ok,SV.den,dL hb,cB hkt,Instr.findKey,aR w hkt,hf,Sem.run_pure]
     exact kW _ hb
    ·refine H.put hl (b:=ρ.k id) rfl (fun c=>sN c) ?_
     exact OM (bG _ _ _ (aw hb)) Array.toList_push hes hev (qJ _ 0 (fun e he=>(hes2 e he).1) hf)
   ·have hkey:(Instr.keyThatStays (((es[0+j]?).map (·.key)).getD (.int .i64 (a.den ρ))) (.int .i64 (a.den ρ))).run P w=.ok (.int .i64 (a.den ρ)) w:=by
     have:es[0+j]? =some c:=by rw[Nat.zero_add,←Array.getElem?_toList];exact hc
     rw[this]
     simp only[Option.map_some,Option.getD_some,hck]
     unfold Instr.keyThatStays
     rw[if_pos (by show(IntKind.i64==IntKind.i64&&a.den ρ==a.den ρ)=true;simp)]
     rfl
    refine⟨fh w (ρ.k id) (.map (es.modify (0+j) fun e=>{e with key:=.int .i64 (a.den ρ),val:=.int .i64 (b.den ρ)}) clk),?_,rfl,rfl,rfl,rfl,?_⟩
    ·simp only[Instr.mapUpdate,Sem.run_bind,aR w ht,Result.andThen_ok,SV.den,dL hb,cB hkt,Instr.findKey,aR w hkt,hf,Sem.run_pure,hkey]
     exact kW _ hb
    ·refine H.put hl (b:=ρ.k id) rfl (fun c=>sN c) ?_
     have hsame:(es.modify (0+j) fun e=>{e with key:=.int .i64 (a.den ρ),val:=.int .i64 (b.den ρ)}).toList.map (fun e=>e.key)=es.toList.map (fun e=>e.key):=by
      rw[Array.toList_modify]
      apply List.ext_getElem?
      intro q
      rw[List.getElem?_map,List.getElem?_map,List.getElem?_modify]
      by_cases hqj:0+j=q
      ·subst hqj
       rw[Nat.zero_add,hc]
       simp[hck]
      ·have hqj':¬j=q:=fun e=>hqj (by omega)
       simp[hqj']
     refine ON (bG _ _ _ (aw hb)) (hsame.trans hes) (fun e he=>?_) ?_
     ·rw[Array.toList_modify]at he
      obtain⟨q,hq⟩:=List.mem_iff_getElem?.1 he
      rw[List.getElem?_modify]at hq
      cases hq2:es.toList[q]? with
      |none=>rw[hq2]at hq;cases hq
      |some e2=>
       rw[hq2]at hq
       have hq:(if 0+j=q then{e2 with key:=.int .i64 (a.den ρ),val:=.int .i64 (b.den ρ)}else e2)=e:=Option.some.inj hq
       by_cases hqj:0+j=q
       ·rw[if_pos hqj]at hq;rw[←hq];exact⟨_,rfl⟩
       ·rw[if_neg hqj]at hq;rw[←hq];exact hev e2 (List.mem_of_getElem? hq2)
     ·have hm:Value.int .i64 (a.den ρ)∈(es.modify (0+j) fun e=>{e with key:=.int .i64 (a.den ρ),val:=.int .i64 (b.den ρ)}).toList.map (fun e=>e.key):=by
       rw[hsame];exact List.mem_map.2 ⟨c,List.mem_of_getElem? hc,hck⟩
      obtain⟨e,he,hek⟩:=List.mem_map.1 hm
      exact⟨e,he,hek⟩
  ·cases h
 ·cases h
end
section
variable [cg] [Fm]
def sO(ρ:ap)(n:Nat)(z:Int):ap:={ρ with i:=fun v=>if v=n then z else ρ.i v}
theorem lG(ρ:ap)(n:Nat)(z:Int):b7 n (n+1) ρ (sO ρ n z):=by
 constructor<;>intro v hv<;>first|rfl|(simp only[sO];rw[if_neg (by omega)])
def WK(P:Program)(L:af)(n:Nat)(t:TypeId)(m k:SV)(ok:Bool):Option OR:=
 match P.underlying t,m,k with
 |some (.map kt vt),.map id,.int .i64 a=>
  bif o7 P kt&&(o7 P vt&&(!ok&&(match sC P vt with|some (.int .i64 0)=>true|_=>false)))then
   match ai (.h id) L with
   |some (.row _ (.mp none))=>some ⟨[],[],.int .i64 (.var n),[],n+1⟩
   |some (.row _ (.mi _))=>some ⟨[],[],.int .i64 (.var n),[],n+1⟩
   |_=>none
  else none
 |_,_,_=>none
theorem OO{P:Program}{L:af}{n:Nat}{t:TypeId}{m k:SV}{ok:Bool}{r:OR}(h:WK P L n t m k ok=some r):OpH P (fun ρ w=>(Instr.lookup t (m.den ρ) (k.den ρ) ok).run P w) L n r:=by
 intro C ρ w H hv hL
 unfold WK at h
 split at h
 ·rename_i kt vt id a ht
  generalize hg:(o7 P kt&&(o7 P vt&&(!ok&&(match sC P vt with|some (.int .i64 0)=>true|_=>false))))=g at h
  cases g with
  |false=>cases h
  |true=>
   simp only[cond_true]at h
   simp only[Bool.and_eq_true,Bool.not_eq_true']at hg
   obtain⟨g1,g2,g3,g4⟩:=hg
   have hkt:=wN g1
   have hz:sC P vt=some (.int .i64 0):=by
    split at g4
    ·assumption
    ·cases g4
   have all:af.avo n (n+1) L=true→∀(es:Array MapEntry) (clk:Nat),w.heap[ρ.k id]? =some (.map es clk)→(∀e,e∈es.toList→(∃a,e.key=.int .i64 a)∧∃b,e.val=.int .i64 b)→
    ∃ρ' w',(Instr.lookup t ((SV.map id).den ρ) ((SV.int .i64 a).den ρ) ok).run P w=.ok ((SV.int .i64 (.var n)).den ρ') w'∧b7 n (n+1) ρ ρ'∧ar ρ' []∧HD C ρ' ([]++L) w':=by
    intro hL es clk hb hes
    have fin:∀y:Int,(Instr.lookup t (.map (some (ρ.k id))) (.int .i64 (a.den ρ)) ok).run P w=.ok (.int .i64 y) w→
     ∃ρ' w',(Instr.lookup t ((SV.map id).den ρ) ((SV.int .i64 a).den ρ) ok).run P w=.ok ((SV.int .i64 (.var n)).den ρ') w'∧b7 n (n+1) ρ ρ'∧ar ρ' []∧HD C ρ' ([]++L) w':=by
     intro y hy
     refine⟨sO ρ n y,w,?_,lG ρ n y,aj _,H.agr (lG ρ n y) hL⟩
     simp only[SV.den,IE.den,hy,sO,if_true]
    rcases fT (a:=a.den ρ) es.toList 0 hes with hf|⟨j,y,c,hf,_⟩
    ·refine fin 0 ?_
     simp only[Instr.lookup,Sem.run_bind,aR w ht,Result.andThen_ok,dL hb,Sem.run_pure,cB hkt,Instr.findKey,aR w hkt,hf,gb w hz,g3]
     rfl
    ·refine fin y ?_
     simp only[Instr.lookup,Sem.run_bind,aR w ht,Result.andThen_ok,dL hb,Sem.run_pure,cB hkt,Instr.findKey,aR w hkt,hf,g3]
     rfl
   split at h
   ·rename_i o hl
    obtain rfl:=Option.some.inj h
    obtain⟨es,clk,hb,hes⟩:=H.rows id o _ hl
    exact all hL es clk hb hes
   ·rename_i o l hl
    obtain rfl:=Option.some.inj h
    obtain⟨es,clk,hb,hes⟩:=WJ (H.rows id o _ hl)
    exact all hL es clk hb hes
   ·cases h
 ·cases h
def sP:List Int→Int
 |[]=>0
 |_::r=>sP r+1
theorem uP:∀l:List Int,sP l=(l.length:Int)
 |[]=>rfl
 |_::r=>by simp only[sP,uP r,List.length_cons];omega
def WL(P:Program)(L:af)(n:Nat)(t:TypeId)(m:SV):Option OR:=
 match P.underlying t,m with
 |some (.map _ _),.map id=>match ai (.h id) L with
  |some (.row _ (.mp none))=>some ⟨[],[.be (.cmp .leq (.lit 0) (.var n))],.int .i64 (.var n),[],n+1⟩
  |some (.row _ (.mi l))=>some ⟨[],[],.int .i64 (.lit (sP l)),[],n⟩
  |_=>none
 |_,_=>none
theorem OP{P:Program}{L:af}{n:Nat}{t:TypeId}{m:SV}{r:OR}(h:WL P L n t m=some r)(ts:Array TypeId)(ty:TypeId)(hts:ts[0]? =some t):OpH P (fun ρ w=>(Builtin.len_ ts ty #[m.den ρ]).run P w) L n r:=by
 intro C ρ w H hv hL
 unfold WL at h
 split at h
 ·rename_i kt vt id ht
  split at h
  ·rename_i o hl
   obtain rfl:=Option.some.inj h
   obtain⟨es,clk,hb,hes⟩:=H.rows id o _ hl
   refine⟨sO ρ n es.size,w,?_,lG ρ n _,aa.2 ⟨?_,aj _⟩,H.agr (lG ρ n _) hL⟩
   ·simp[Builtin.len_,hts,aR w ht,SV.den,dL hb,goInt,IE.den,sO]
   ·simp[F.holds,BE.den,bv,IE.den,sO]
  ·rename_i o l hl
   obtain rfl:=Option.some.inj h
   obtain⟨es,clk,hb,hes,_⟩:=H.rows id o _ hl
   have hsz:(es.size:Int)=sP l:=by
    rw[uP,←Array.length_toList,←List.length_map (fun e:MapEntry=>e.key),hes,List.length_map]
   refine⟨ρ,w,?_,b7.refl _ _ _,aj _,H⟩
   simp[Builtin.len_,hts,aR w ht,SV.den,dL hb,goInt,IE.den,hsz]
  ·cases h
 ·cases h
def dm(a:IE):List (Int×Nat)→List (BE×SV)×SV
 |[]=>([],.tup [.nilf,.b (.lit false)])
 |p::r=>let(l,s):=dm a r;((eI .eql a (.lit p.1),.tup [.fn (.func p.2) [] [],.b (.lit true)])::l,s)
def fz(ρ:ap):List (BE×SV)→SV→Value
 |[],s=>s.den ρ
 |(c,x)::r,s=>if c.den ρ then x.den ρ else fz ρ r s
def Hh(P:Program)(L:af)(t:TypeId)(m k:SV)(ok:Bool):Option (List (BE×SV)×SV):=
 match P.underlying t,m,k with
 |some (.map kt vt),.map id,.int .i64 a=>
  bif o7 P kt&&(ok&&(match sC P vt with|some .nilFunc=>true|_=>false))then
   match ai (.h id) L with
   |some (.row _ (.mp (some l)))=>some (dm a l)
   |_=>none
  else none
 |_,_,_=>none
theorem o9{ρ:ap}{a:IE}:∀(es:List MapEntry) (l:List (Int×Nat)) (i:Nat),es.map (fun e=>(e.key,e.val))=l.map (fun p=>(Value.int .i64 p.1,Value.func (.func p.2) #[] #[]))→
 (Instr.findNow (.int .i64) (.int .i64 (a.den ρ)) es i=some none∧fz ρ (dm a l).1 (dm a l).2=.tuple #[.nilFunc,.bool false])∨∃j v,Instr.findNow (.int .i64) (.int .i64 (a.den ρ)) es i=some (some (j,v))∧fz ρ (dm a l).1 (dm a l).2=.tuple #[v,.bool true]
 |[],[],i,_=> .inl ⟨rfl,rfl⟩
 |[],p::l,i,h=>by simp at h
 |e::es,[],i,h=>by simp at h
 |e::es,p::l,i,h=>by
  simp only[List.map_cons,List.cons.injEq,Prod.mk.injEq]at h
  obtain⟨⟨h1,h2⟩,h3⟩:=h
  by_cases hp:a.den ρ=p.1
  ·refine .inr ⟨i,e.val,?_,?_⟩
   ·simp only[Instr.findNow,h1,Instr.sameNow,if_true,hp,beq_self_eq_true]
   ·simp only[dm,fz,dq,bv,IE.den,hp,beq_self_eq_true,if_true,SV.den,SV.dens,BE.den,h2]
  ·have hn:(a.den ρ==p.1)=false:=by simp[hp]
   have hpick:fz ρ (dm a (p::l)).1 (dm a (p::l)).2=fz ρ (dm a l).1 (dm a l).2:=by
    simp only[dm,fz,dq,bv,IE.den,hn,Bool.false_eq_true,if_false]
   have hfind:Instr.findNow (.int .i64) (.int .i64 (a.den ρ)) (e::es) i=Instr.findNow (.int .i64) (.int .i64 (a.den ρ)) es (i+1):=by
    simp only[Instr.findNow,h1,Instr.sameNow,if_true,hn]
   rw[hpick,hfind]
   exact o9 es l (i+1) h3
theorem Hi{P:Program}{C:bp}{ρ:ap}{L:af}{w:World}(H:HD C ρ L w){t:TypeId}{m k:SV}{ok:Bool}{tr:List (BE×SV)×SV}(h:Hh P L t m k ok=some tr):(Instr.lookup t (m.den ρ) (k.den ρ) ok).run P w=.ok (fz ρ tr.1 tr.2) w:=by
 unfold Hh at h
 split at h
 ·rename_i kt vt id a ht
  generalize hg:(o7 P kt&&(ok&&(match sC P vt with|some .nilFunc=>true|_=>false)))=g at h
  cases g with
  |false=>cases h
  |true=>
   simp only[cond_true]at h
   simp only[Bool.and_eq_true]at hg
   obtain⟨g1,g2,g4⟩:=hg
   have hkt:=wN g1
   have hz:sC P vt=some .nilFunc:=by
    split at g4
    ·assumption
    ·cases g4
   split at h
   ·rename_i o l hl
    obtain rfl:=Option.some.inj h
    obtain⟨es,clk,hb,hes⟩:=H.rows id o _ hl
    rcases o9 (ρ:=ρ) (a:=a) es.toList l 0 hes with⟨hf,hp⟩|⟨j,v,hf,hp⟩
    ·simp only[SV.den,Instr.lookup,Sem.run_bind,aR w ht,Result.andThen_ok,dL hb,Sem.run_pure,cB hkt,Instr.findKey,aR w hkt,hf,gb w hz,g2,hp,if_true]
    ·simp only[SV.den,Instr.lookup,Sem.run_bind,aR w ht,Result.andThen_ok,dL hb,Sem.run_pure,cB hkt,Instr.findKey,aR w hkt,hf,g2,hp,if_true]
   ·cases h
 ·cases h
end
section
variable [cg] [Fm]
theorem gQ{α β:Type}(f:α→β)(xs:Array α):xs.map f=(xs.toList.map f).toArray:=by
 apply Array.ext';rw[Array.toList_map]
def n9(P:Program)(o:Oper)(c:BE)(R H:af)(n:Nat)(r:OR):Prop:=
 ∀(C:bp) (nt:Nat) (ρ:ap) (a:Act) (w:World),HD C ρ H w→RD nt ρ R a→c.den ρ=true→ar ρ r.vcs→af.avo n r.nxt H=true→
  ∃(ρ':ap) (w':World) (nx:Next),(execOp a.eval o).run P w=.ok nx w'∧(nx=.value (r.val.den ρ')∨(nx=.skip∧r.val.den ρ'=undef))∧
   b7 n r.nxt ρ ρ'∧ar ρ' r.facts∧HD C ρ' (r.log++H) w'
theorem n9.pure{P:Program}{o:Oper}{c:BE}{R H:af}{n:Nat}{vcs:List F}{s:SV}
 (h:∀(C:bp) (nt:Nat) (ρ:ap) (a:Act) (w:World),HD C ρ H w→RD nt ρ R a→c.den ρ=true→ar ρ vcs→(execOp a.eval o).run P w=.ok (.value (s.den ρ)) w):
 n9 P o c R H n ⟨vcs,[],s,[],n⟩:=
 fun C nt ρ a w HH RR hc hv _=>⟨ρ,w,_,h C nt ρ a w HH RR hc hv,.inl rfl,b7.refl _ _ _,aj _,HH⟩
def fP(n:Nat):Option SV→Option OR
 |some s=>some ⟨[],[],s,[],n⟩
 |none=>none
def C4(n:Nat):Option (List F×SV)→Option OR
 |some (v,s)=>some ⟨v,[],s,[],n⟩
 |none=>none
def aba(s:SV):Option SV:=
 match s with
 |.ptr p=>some (.ptr p)
 |.fn (.func f) a c=>some (.fn (.func f) a c)
 |_=>none
def WM(R:af)(c:BE)(q x y:Operand):Option SV:=
 match ep R c q with
 |some (.b (.lit true))=>ep R c x
 |some (.b (.lit false))=>ep R c y
 |some (.b e)=>match ep R (nU c e) x,ep R (nU c (dj e)) y with
  |some s,some t=>OF e s t
  |_,_=>none
 |_=>none
def C5(P:Program)(R H:af)(c:BE)(n:Nat)(b:Builtin)(ts:Array TypeId)(args:List Operand):Option OR:=
 match b,pY R c args with
 |.len,some [x]=>match ts[0]? with
  |some t=>match WL P H n t x with
   |some r=>some r
   |none=>fP n (ab7 P H t x)
  |none=>none
 |.append,some [x,y]=>match ts.toList with
  |[t,tx]=>ab9 P H n t tx x y
  |_=>none
 |.copy,some [x,y]=>match ts.toList with
  |[t,tx]=>match Hd P H t x y with
   |some (s,lg)=>some ⟨[],[],s,lg,n⟩
   |none=>Hb P H n t tx x y
  |_=>none
 |.max,some l=>fP n (sMM true l)
 |.min,some l=>fP n (sMM false l)
 |_,_=>none
def qc(R:af)(c:BE):List (Nat×Operand)→Option (List (Nat×SV))
 |[]=>some []
 |(i,x)::r=>match ep R c x,qc R c r with
  |some s,some l=>some ((i,s)::l)
  |_,_=>none
theorem nC{nt:Nat}{ρ:ap}{R:af}{a:Act}(h:RD nt ρ R a){c:BE}(hc:c.den ρ=true):∀{ps:List (Nat×Operand)} {l:List (Nat×SV)},qc R c ps=some l→
 ps.map (fun x=>(x.1,a.eval x.2))=l.map fun x=>(x.1,x.2.den ρ)
 |[],l,hs=>by simp only[qc]at hs;obtain rfl:=Option.some.inj hs;rfl
 |(i,x)::r,l,hs=>by
  simp only[qc]at hs
  split at hs
  ·rename_i s l' h1 h2
   obtain rfl:=Option.some.inj hs
   simp only[List.map_cons,az h hc h1,nC h hc h2]
  ·cases hs
def C6(R:af)(c:BE):Option Operand→Option (Option (IntKind×IE))
 |none=>some none
 |some x=>match ep R c x with
  |some (.int k e)=>some (some (k,e))
  |_=>none
theorem gD{nt:Nat}{ρ:ap}{R:af}{a:Act}(h:RD nt ρ R a){c:BE}(hc:c.den ρ=true){x:Option Operand}{o:Option (IntKind×IE)}(hs:C6 R c x=some o):x.map a.eval=o.map fun y=> .int y.1 (y.2.den ρ):=by
 cases x with
 |none=>simp only[C6]at hs;obtain rfl:=Option.some.inj hs;rfl
 |some x=>
  simp only[C6]at hs
  split at hs
  ·rename_i k e he
   obtain rfl:=Option.some.inj hs
   simp only[Option.map_some,az h hc he,SV.den]
  ·cases hs
def wP:Option (IntKind×IE)→IntKind
 |some (k,_)=>k
 |none=> .i64
def WN:Option (IntKind×IE)→Option (IntKind×IE)→Bool
 |some (k,e),some (j,f)=>gw k j&&e.eq f
 |_,_=>false
def WO(P:Program)(R H:af)(n:Nat)(c:BE)(t:TypeId)(x:Operand)(lo hi:Option Operand):Option OR:=
 match ep R c x,C6 R c lo,C6 R c hi with
 |some (.lst id),some l,some h=>a65 P H n t (.lst id) (l.map (·.2)) (h.map (·.2))
 |some (.ptr p),some l,some h=>fP n (WH P t (.ptr p) (l.map fun y=> .int y.1 y.2) (h.map fun y=> .int y.1 y.2))
 |_,_,_=>none
def sop(P:Program)(R H:af)(n:Nat)(c:BE)(o:Op):Option OR:=
 match o with
 |.move x=>fP n (ep R c x)
 |.assign x=>fP n (ep R c x)
 |.pick q x y=>fP n (WM R c q x y)
 |.alloc t=>match sC P t with
  |some z=>a5z H n t (ofValue z)
  |none=>none
 |.box t x=>match ep R c x with
  |some s=>a5z H n t s
  |none=>none
 |.build t ps=>match qc R c ps.toList with
  |some l=>fP n (H8 P H t l)
  |none=>none
 |.load t x=>match ep R c x with
  |some s=>C4 n (uL P H t s)
  |none=>none
 |.store t x y=>match ep R c x,ep R c y with
  |some s,some v=>match H4 P H t s v with
   |some (f,k,e)=>some ⟨f,[],.tup [],[(k,e)],n⟩
   |none=>none
  |_,_=>none
 |.nilCheck x=>match ep R c x with
  |some s=>fP n (aba s)
  |none=>none
 |.binOp op t x y _=>match ep R c x,ep R c y with
  |some s,some v=>match WI P H op t s v with
   |some (fs,r)=>some ⟨[],fs,r,[],n⟩
   |none=>C4 n (ab5 P op t s v)
  |_,_=>none
 |.buildSlice t len ps=>match qc R c ps.toList with
  |some l=>sI P H n t len l
  |none=>none
 |.makeMap t none=>Hf P n t
 |.insert t m k v=>match ep R c m,ep R c k,ep R c v with
  |some m,some k,some v=>rT P H n t m k v
  |_,_,_=>none
 |.mapUpdate t m k v=>match ep R c m,ep R c k,ep R c v with
  |some m,some k,some v=>rT P H n t m k v
  |_,_,_=>none
 |.lookup t m k ok=>match ep R c m,ep R c k with
  |some m,some k=>WK P H n t m k ok
  |_,_=>none
 |.makeSlice t x y=>match ep R c x,ep R c y with
  |some (.int _ a),some (.int _ b)=>bif a.eq b then sJ P n t a else none
  |_,_=>none
 |.slice t x lo hi none=>WO P R H n c t x lo hi
 |.slice t x lo hi (some mx)=>match ep R c x,C6 R c lo,C6 R c hi,C6 R c (some mx)with
  |some (.lst id),some l,some h,some k=>bif WN h k then a65 P H n t (.lst id) (l.map (·.2)) (h.map (·.2))else none
  |_,_,_,_=>none
 |.field t x f=>match ep R c x with
  |some s=>fP n (wL P t s f)
  |none=>none
 |.index t x y=>match ep R c x,ep R c y with
  |some s,some v=>fP n (wM P t s v)
  |_,_=>none
 |.unOp op _ x=>match ep R c x with
  |some s=>fP n (sUn op s)
  |none=>none
 |.convert t u x=>match ep R c x with
  |some s=>fP n (WC P t u s)
  |none=>none
 |.fieldAddr t x f=>match ep R c x with
  |some s=>fP n (H6 P t s f)
  |none=>none
 |.indexAddr t x y=>match ep R c x,ep R c y with
  |some s,some v=>C4 n (q8 P H t s v)
  |_,_=>none
 |.extract x i=>match ep R c x with
  |some s=>fP n (adz s i)
  |none=>none
 |.makeFunc f a b=>match pY R c a.toList,pY R c b.toList with
  |some l,some m=>some ⟨[],[],.fn f l m,[],n⟩
  |_,_=>none
 |.call {callee:=.builtin b,args,argTypes}=>C5 P R H c n b argTypes args.toList
 |_=>none
theorem c9{n:Nat}{x:Option SV}{r:OR}(h:fP n x=some r):∃s,x=some s∧r=⟨[],[],s,[],n⟩:=by
 cases x with
 |none=>cases h
 |some s=>exact⟨s,rfl,(Option.some.inj h).symm⟩
theorem lH{n:Nat}{x:Option (List F×SV)}{r:OR}(h:C4 n x=some r):∃v s,x=some (v,s)∧r=⟨v,[],s,[],n⟩:=by
 cases x with
 |none=>cases h
 |some s=>exact⟨s.1,s.2,rfl,(Option.some.inj h).symm⟩
theorem OQ{nt:Nat}{ρ:ap}{R:af}{a:Act}(h:RD nt ρ R a){c:BE}(hc:c.den ρ=true){q x y:Operand}{s:SV}(hs:WM R c q x y=some s):
 ∃b,a.eval q=.bool b∧(if b then a.eval x else a.eval y)=s.den ρ:=by
 unfold WM at hs
 split at hs
 ·rename_i hq;exact⟨true,by rw[az h hc hq];rfl,by simp only[if_true];exact az h hc hs⟩
 ·rename_i hq;exact⟨false,by rw[az h hc hq];rfl,by simp only[Bool.false_eq_true,if_false];exact az h hc hs⟩
 ·rename_i e _ _ hq
  split at hs
  ·rename_i s1 t1 h1 h2
   refine⟨e.den ρ,by rw[az h hc hq];rfl,?_⟩
   rw[BV hs]
   cases he:e.den ρ
   ·have:(nU c (dj e)).den ρ=true:=by rw[pW,cJ,hc,he];rfl
    simp only[Bool.false_eq_true,if_false];exact az h this h2
   ·have:(nU c e).den ρ=true:=by rw[pW,hc,he];rfl
    simp only[if_true];exact az h this h1
  ·cases hs
 ·cases hs
theorem WP{s x:SV}(h:aba s=some x)(ρ:ap):x=s∧((∃p,s.den ρ=.pointer (some p))∨∃f a c,s.den ρ=.func (.func f) a c):=by
 unfold aba at h
 split at h
 ·obtain rfl:=Option.some.inj h;exact⟨rfl,.inl ⟨_,rfl⟩⟩
 ·obtain rfl:=Option.some.inj h;exact⟨rfl,.inr ⟨_,_,_,rfl⟩⟩
 ·cases h
theorem OpH.op{P:Program}{o:Oper}{c:BE}{R H:af}{n:Nat}{r:OR}{run:ap→World→Result Value}(h:OpH P run H n r)
 (he:∀(C:bp) (nt:Nat) (ρ:ap) (a:Act) (w w':World) (v:Value),RD nt ρ R a→c.den ρ=true→run ρ w=.ok v w'→(execOp a.eval o).run P w=.ok (.value v) w'):n9 P o c R H n r:=by
 intro C nt ρ a w HH RR hc hv hL
 obtain⟨ρ',w',h1,h2,h3,h4⟩:=h C ρ w HH hv hL
 exact⟨ρ',w',_,he C nt ρ a w w' _ RR hc h1,.inl rfl,h2,h3,h4⟩
theorem abb{P:Program}{R H:af}{n:Nat}{c:BE}{o:Oper}{r:OR}(h:sop P R H n c o.op=some r):n9 P o c R H n r:=by
 unfold sop at h
 split at h
 ·rename_i x ho
  obtain⟨s,hs,rfl⟩:=c9 h
  exact .pure fun C nt ρ a w HH RR hc hv=>by simp only[execOp,ho,az RR hc hs,Sem.run_pure]
 ·rename_i x ho
  obtain⟨s,hs,rfl⟩:=c9 h
  exact .pure fun C nt ρ a w HH RR hc hv=>by simp only[execOp,ho,az RR hc hs,Sem.run_pure]
 ·rename_i q x y ho
  obtain⟨s,hs,rfl⟩:=c9 h
  refine .pure fun C nt ρ a w HH RR hc hv=>?_
  obtain⟨b,hb,he⟩:=OQ RR hc hs
  simp only[execOp,ho,hb,asBool,Sem.run_bind,Sem.run_pure,Result.andThen_ok,←he]
 ·rename_i t ho
  split at h
  ·rename_i z hz
   intro C nt ρ a w HH RR hc hv hL
   obtain⟨ρ',w',hrun,hvc,hfs,hval,hagr,hd⟩:=BR (P:=P) HH h hL
   refine⟨ρ',w',_,?_,.inl rfl,hagr,by rw[hfs];exact aj _,hd⟩
   rw[gP]at hrun
   simp only[execOp,ho,Instr.alloc,Sem.run_bind,gb w hz,Result.andThen_ok,hrun,Sem.run_pure,hval,SV.den,PT.addr]
  ·cases h
 ·rename_i t x ho
  split at h
  ·rename_i s hs
   intro C nt ρ a w HH RR hc hv hL
   obtain⟨ρ',w',hrun,hvc,hfs,hval,hagr,hd⟩:=BR (P:=P) HH h hL
   refine⟨ρ',w',_,?_,.inl rfl,hagr,by rw[hfs];exact aj _,hd⟩
   simp only[execOp,ho,Instr.box,az RR hc hs,Sem.run_bind,hrun,Result.andThen_ok,Sem.run_pure,hval,SV.den,PT.addr]
  ·cases h
 ·rename_i t ps ho
  split at h
  ·rename_i l hl
   obtain⟨s,hs,rfl⟩:=c9 h
   refine .pure fun C nt ρ a w HH RR hc hv=>?_
   have hp:(ps.map fun x=>(x.1,a.eval x.2))=(l.map fun x=>(x.1,x.2.den ρ)).toArray:=by
    rw[←nC RR hc hl,gQ]
   have:=H9 (P:=P) HH hs
   simp only[execOp,ho,Sem.run_bind]
   rw[show(Array.map (fun x=>match x with|(i,x)=>(i,a.eval x)) ps)=(ps.map fun x=>(x.1,a.eval x.2))from rfl,hp,this]
   rfl
  ·cases h
 ·rename_i t x ho
  split at h
  ·rename_i s hs
   obtain⟨v,s',hs',rfl⟩:=lH h
   refine .pure fun C nt ρ a w HH RR hc hv=>?_
   simp only[execOp,ho,az RR hc hs,Sem.run_bind,lD HH hs' hv,Result.andThen_ok,Sem.run_pure]
  ·cases h
 ·rename_i t x y ho
  split at h
  ·rename_i s v hs hv'
   split at h
   ·rename_i f k e hst
    obtain rfl:=Option.some.inj h
    intro C nt ρ a w HH RR hc hv hL
    obtain⟨w',hrun,hd⟩:=H5 HH hst hv
    refine⟨ρ,w',.skip,?_,.inr ⟨rfl,rfl⟩,b7.refl _ _ _,aj _,hd⟩
    simp only[execOp,ho,az RR hc hs,az RR hc hv',Sem.run_bind,hrun,Result.andThen_ok,Sem.run_pure]
   ·cases h
  ·cases h
 ·rename_i x ho
  split at h
  ·rename_i s hs
   obtain⟨s',hs',rfl⟩:=c9 h
   refine .pure fun C nt ρ a w HH RR hc hv=>?_
   obtain⟨rfl,hp⟩:=WP hs' ρ
   simp only[execOp,ho,az RR hc hs]
   rcases hp with⟨p,hp⟩|⟨f,a1,c1,hp⟩<;>rw[hp]<;>rfl
  ·cases h
 ·rename_i op t x y ty ho
  split at h
  ·rename_i s v hs hv'
   split at h
   ·rename_i fs r1 hn1
    obtain rfl:=Option.some.inj h
    intro C nt ρ a w HH RR hc hv hL
    obtain⟨h1,h2⟩:=OL HH hn1 x y
    refine⟨ρ,w,_,?_,.inl rfl,b7.refl _ _ _,h2,HH⟩
    simp only[execOp,ho,az RR hc hs,az RR hc hv']
    rw[Sem.run_bind,h1];rfl
   ·obtain⟨f,s',hs',rfl⟩:=lH h
    refine .pure fun C nt ρ a w HH RR hc hv=>?_
    have:=WB (P:=P) hs' hv x y w
    simp only[execOp,ho,az RR hc hs,az RR hc hv']
    rw[Sem.run_bind,this];rfl
  ·cases h
 ·rename_i t len ps ho
  split at h
  ·rename_i l hl
   refine(wK h).op fun C nt ρ a w w' v RR hc hr=>?_
   have hp:(ps.map fun x=>(x.1,a.eval x.2))=(l.map fun x=>(x.1,x.2.den ρ)).toArray:=by
    rw[←nC RR hc hl,gQ]
   simp only[execOp,ho,Sem.run_bind]
   rw[show(Array.map (fun x=>match x with|(i,x)=>(i,a.eval x)) ps)=(ps.map fun x=>(x.1,a.eval x.2))from rfl,hp,hr]
   rfl
  ·cases h
 ·rename_i t ho
  refine(Hg h).op fun C nt ρ a w w' v RR hc hr=>?_
  simp only[execOp,ho,Option.map_none,Sem.run_bind,hr,Result.andThen_ok,Sem.run_pure]
 ·rename_i t m k v ho
  split at h
  ·rename_i sm sk sv hm hk hv0
   intro C nt ρ a w HH RR hc hv hL
   obtain⟨w',h1,h2,h3,h4,h5,h6⟩:=qK h C ρ w HH
   refine⟨ρ,w',.skip,?_,.inr ⟨rfl,by rw[h4];rfl⟩,b7.refl _ _ _,by rw[h3];exact aj _,h6⟩
   simp only[execOp,ho,az RR hc hm,az RR hc hk,az RR hc hv0,Sem.run_bind,h1,Result.andThen_ok,Sem.run_pure]
  ·cases h
 ·rename_i t m k v ho
  split at h
  ·rename_i sm sk sv hm hk hv0
   intro C nt ρ a w HH RR hc hv hL
   obtain⟨w',h1,h2,h3,h4,h5,h6⟩:=qK h C ρ w HH
   refine⟨ρ,w',.skip,?_,.inr ⟨rfl,by rw[h4];rfl⟩,b7.refl _ _ _,by rw[h3];exact aj _,h6⟩
   simp only[execOp,ho,az RR hc hm,az RR hc hk,az RR hc hv0,Sem.run_bind,h1,Result.andThen_ok,Sem.run_pure]
  ·cases h
 ·rename_i t m k ok ho
  split at h
  ·rename_i sm sk hm hk
   refine(OO h).op fun C nt ρ a w w' v RR hc hr=>?_
   simp only[execOp,ho,az RR hc hm,az RR hc hk,Sem.run_bind,hr,Result.andThen_ok,Sem.run_pure]
  ·cases h
 ·rename_i t x y ho
  split at h
  ·rename_i k e k' e' hx hy
   cases he:e.eq e'
   ·rw[he]at h;cases h
   ·rw[he]at h
    have:=IE.b8 _ _ he
    subst this
    refine(OH (k:=k) (k':=k') h).op fun C nt ρ a w w' v RR hc hr=>?_
    simp only[execOp,ho,az RR hc hx,az RR hc hy,SV.den,Sem.run_bind,hr,Result.andThen_ok,Sem.run_pure]
  ·cases h
 ·rename_i t x lo hi ho
  unfold WO at h
  split at h
  ·rename_i id l hh hx hl hhi
   refine(BY (kl:=wP l) (kh:=wP hh) false h).op fun C nt ρ a w w' v RR hc hr=>?_
   have e1:=gD RR hc hl
   have e2:=gD RR hc hhi
   have f1:(l.map (·.2)).map (fun x=>Value.int (wP l) (x.den ρ))=lo.map a.eval:=by rw[e1];cases l<;>rfl
   have f2:(hh.map (·.2)).map (fun x=>Value.int (wP hh) (x.den ρ))=hi.map a.eval:=by rw[e2];cases hh<;>rfl
   simp only[f1,f2,cond_false]at hr
   simp only[execOp,ho,az RR hc hx,Option.map_none,Sem.run_bind,hr,Result.andThen_ok,Sem.run_pure]
  ·rename_i p l hh hx hl hhi
   obtain⟨s',hs',rfl⟩:=c9 h
   refine .pure fun C nt ρ a w HH RR hc hv=>?_
   have e1:=gD RR hc hl
   have e2:=gD RR hc hhi
   have hr:=OJ hs' ρ w
   have f1:(l.map fun y=>SV.int y.1 y.2).map (SV.den ρ)=lo.map a.eval:=by rw[e1];cases l<;>rfl
   have f2:(hh.map fun y=>SV.int y.1 y.2).map (SV.den ρ)=hi.map a.eval:=by rw[e2];cases hh<;>rfl
   rw[f1,f2]at hr
   simp only[execOp,ho,az RR hc hx,Option.map_none,Sem.run_bind,hr,Result.andThen_ok,Sem.run_pure]
  ·cases h
 ·rename_i t x lo hi mx ho
  split at h
  ·rename_i id l hh kk hx hl hhi hmx
   cases hs:WN hh kk
   ·rw[hs]at h;cases h
   rw[hs]at h
   simp only[cond_true]at h
   refine(BY (kl:=wP l) (kh:=wP hh) true h).op fun C nt ρ a w w' v RR hc hr=>?_
   have e1:=gD RR hc hl
   have e2:=gD RR hc hhi
   have e3:=gD RR hc hmx
   have f1:(l.map (·.2)).map (fun x=>Value.int (wP l) (x.den ρ))=lo.map a.eval:=by rw[e1];cases l<;>rfl
   have f2:(hh.map (·.2)).map (fun x=>Value.int (wP hh) (x.den ρ))=hi.map a.eval:=by rw[e2];cases hh<;>rfl
   have f3:(hh.map (·.2)).map (fun x=>Value.int (wP hh) (x.den ρ))=some (a.eval mx):=by
    rw[show some (a.eval mx)=Option.map a.eval (some mx)from rfl,e3]
    unfold WN at hs
    split at hs
    ·simp only[Bool.and_eq_true]at hs
     rw[bY hs.1,IE.b8 _ _ hs.2];rfl
    ·cases hs
   rw[f3]at f2
   simp only[f1,f3,cond_true]at hr
   simp only[execOp,ho,az RR hc hx,Option.map_some,←f2,Sem.run_bind,hr,Result.andThen_ok,Sem.run_pure]
  ·cases h
 ·rename_i t x f ho
  split at h
  ·rename_i s hs
   obtain⟨s',hs',rfl⟩:=c9 h
   refine .pure fun C nt ρ a w HH RR hc hv=>?_
   simp only[execOp,ho,az RR hc hs,Sem.run_bind,C0 hs',Result.andThen_ok,Sem.run_pure]
  ·cases h
 ·rename_i t x y ho
  split at h
  ·rename_i s v hs hv'
   obtain⟨s',hs',rfl⟩:=c9 h
   refine .pure fun C nt ρ a w HH RR hc hv=>?_
   simp only[execOp,ho,az RR hc hs,az RR hc hv',Sem.run_bind,C1 hs',Result.andThen_ok,Sem.run_pure]
  ·cases h
 ·rename_i op t x ho
  split at h
  ·rename_i s hs
   obtain⟨s',hs',rfl⟩:=c9 h
   refine .pure fun C nt ρ a w HH RR hc hv=>?_
   simp only[execOp,ho,az RR hc hs,Sem.run_bind,a61 hs',Result.andThen_ok,Sem.run_pure]
  ·cases h
 ·rename_i t u x ho
  split at h
  ·rename_i s hs
   obtain⟨s',hs',rfl⟩:=c9 h
   refine .pure fun C nt ρ a w HH RR hc hv=>?_
   simp only[execOp,ho,az RR hc hs,Sem.run_bind,OE hs',Result.andThen_ok,Sem.run_pure]
  ·cases h
 ·rename_i t x f ho
  split at h
  ·rename_i s hs
   obtain⟨s',hs',rfl⟩:=c9 h
   refine .pure fun C nt ρ a w HH RR hc hv=>?_
   simp only[execOp,ho,az RR hc hs,Sem.run_bind,H7 hs',Result.andThen_ok,Sem.run_pure]
  ·cases h
 ·rename_i t x y ho
  split at h
  ·rename_i s v hs hv'
   obtain⟨f,s',hs',rfl⟩:=lH h
   refine .pure fun C nt ρ a w HH RR hc hv=>?_
   simp only[execOp,ho,az RR hc hs,az RR hc hv',Sem.run_bind,nz HH hs' hv,Result.andThen_ok,Sem.run_pure]
  ·cases h
 ·rename_i x i ho
  split at h
  ·rename_i s hs
   obtain⟨s',hs',rfl⟩:=c9 h
   refine .pure fun C nt ρ a w HH RR hc hv=>?_
   unfold adz at hs'
   split at hs'
   ·rename_i l
    have hd:a.eval x=.tuple (l.map (SV.den ρ)).toArray:=by rw[az RR hc hs];simp only[SV.den,SV.b9]
    simp[execOp,ho,hd,Instr.extract,hs']
   ·cases hs'
  ·cases h
 ·rename_i f a1 b1 ho
  split at h
  ·rename_i l m hl hm
   obtain rfl:=Option.some.inj h
   refine .pure fun C nt ρ a w HH RR hc hv=>?_
   have e1:a1.map a.eval=(l.map (SV.den ρ)).toArray:=by rw[←dk RR hc hl,gQ]
   have e2:b1.map a.eval=(m.map (SV.den ρ)).toArray:=by rw[←dk RR hc hm,gQ]
   simp only[execOp,ho,Instr.makeFunc,Sem.run_bind,Sem.run_pure,Result.andThen_ok,e1,e2,SV.den,SV.b9]
  ·cases h
 ·rename_i b args ts ho
  unfold C5 at h
  split at h
  ·rename_i x hx
   split at h
   ·rename_i t ht
    split at h
    ·rename_i r1 hm
     obtain rfl:=Option.some.inj h
     refine(OP hm ts o.type ht).op fun C nt ρ a w w' v RR hc hr=>?_
     have e1:args.map a.eval=#[x.den ρ]:=by
      have:=dk RR hc hx
      rw[←Array.toArray_toList (xs:=args)];simp only[List.map_toArray,this];rfl
     simp only[execOp,ho,resolve,Sem.run_bind,Sem.run_pure,Result.andThen_ok,invoke,builtin,e1,hr]
    ·obtain⟨s,hs,rfl⟩:=c9 h
     refine .pure fun C nt ρ a w HH RR hc hv=>?_
     have e1:args.map a.eval=#[x.den ρ]:=by
      have:=dk RR hc hx
      rw[←Array.toArray_toList (xs:=args)];simp only[List.map_toArray,this];rfl
     have:=WE (P:=P) HH hs ts o.type ht
     simp only[execOp,ho,resolve,Sem.run_bind,Sem.run_pure,Result.andThen_ok,invoke,builtin,e1,this]
   ·cases h
  ·rename_i x y hx
   split at h
   ·rename_i t tx hts
    have hts':ts=#[t,tx]:=by rw[←Array.toArray_toList (xs:=ts),hts]
    intro C nt ρ a w HH RR hc hv hL
    obtain⟨ρ',w',h1,h2,h3,h4⟩:=WF (ty:=o.type) HH h hL hv
    refine⟨ρ',w',_,?_,.inl rfl,h2,h3,h4⟩
    have e1:args.map a.eval=#[x.den ρ,y.den ρ]:=by
     have:=dk RR hc hx
     rw[←Array.toArray_toList (xs:=args)];simp only[List.map_toArray,this];rfl
    simp only[execOp,ho,resolve,Sem.run_bind,Sem.run_pure,Result.andThen_ok,invoke,builtin,e1,hts',h1]
   ·cases h
  ·rename_i x y hx
   split at h
   ·rename_i t tx hts
    have hts':ts=#[t,tx]:=by rw[←Array.toArray_toList (xs:=ts),hts]
    have e1:∀{nt:Nat} {ρ:ap} {a:Act},RD nt ρ R a→c.den ρ=true→args.map a.eval=#[x.den ρ,y.den ρ]:=by
     intro nt ρ a RR hc
     have:=dk RR hc hx
     rw[←Array.toArray_toList (xs:=args)];simp only[List.map_toArray,this];rfl
    split at h
    ·rename_i s lg hcp
     obtain rfl:=Option.some.inj h
     intro C nt ρ a w HH RR hc hv hL
     obtain⟨w',h1,h2⟩:=He (tx:=tx) (ty:=o.type) HH hcp
     refine⟨ρ,w',_,?_,.inl rfl,b7.refl _ _ _,aj _,h2⟩
     simp only[execOp,ho,resolve,Sem.run_bind,Sem.run_pure,Result.andThen_ok,invoke,builtin,e1 RR hc,hts',h1]
    ·refine(Hc (ty:=o.type) h).op fun C nt ρ a w w' v RR hc hr=>?_
     simp only[execOp,ho,resolve,Sem.run_bind,Sem.run_pure,Result.andThen_ok,invoke,builtin,e1 RR hc,hts',hr]
   ·cases h
  ·rename_i l hl
   obtain⟨s,hs,rfl⟩:=c9 h
   refine .pure fun C nt ρ a w HH RR hc hv=>?_
   have e1:args.map a.eval=(l.map (SV.den ρ)).toArray:=by rw[←dk RR hc hl,gQ]
   have:=MR (P:=P) (ρ:=ρ) w hs ts o.type
   simp only[if_true]at this
   simp only[execOp,ho,resolve,Sem.run_bind,Sem.run_pure,Result.andThen_ok,invoke,builtin,e1,this]
  ·rename_i l hl
   obtain⟨s,hs,rfl⟩:=c9 h
   refine .pure fun C nt ρ a w HH RR hc hv=>?_
   have e1:args.map a.eval=(l.map (SV.den ρ)).toArray:=by rw[←dk RR hc hl,gQ]
   have:=MR (P:=P) (ρ:=ρ) w hs ts o.type
   simp only[Bool.false_eq_true,if_false]at this
   simp only[execOp,ho,resolve,Sem.run_bind,Sem.run_pure,Result.andThen_ok,invoke,builtin,e1,this]
  ·cases h
 ·cases h
end
section
variable [cg] [Fm]
inductive XK where
 |load (k:IntKind)
 |store
 |add (k:IntKind)
 |cas (k:IntKind)
 |mark0 (m:Mark)
 |marked (m:Addr→Mark)
def XK.sem:XK→Array Value→Sem Value
 |.load k=>Extern.Atomic.loadT (.int k)
 |.store=>Extern.Atomic.storeT
 |.add k=>Extern.Atomic.update (Op.intArith .add) k true
 |.cas k=>Extern.Atomic.casT (.int k)
 |.mark0 m=>fun _=>do mark m;pure Extern.Race.none_
 |.marked m=>Extern.Race.marked m
def Wl(s : String)(k : XK): Prop := Extern.allGenericRows.lookup s = none ∧ Extern.allTypedRows.lookup s = none ∧ Extern.allRows.lookup s = some k.sem ∧ Extern.allNextRows.lookup s = none ∧ (s == "runtime.NumGoroutine") = false
theorem x1: Wl "sync/atomic.LoadInt64" (.load .i64) := ⟨by kernel_rfl, by kernel_rfl, by kernel_rfl, by kernel_rfl, by kernel_rfl⟩
theorem x2: Wl "sync/atomic.StoreInt64" .store := ⟨by kernel_rfl, by kernel_rfl, by kernel_rfl, by kernel_rfl, by kernel_rfl⟩
theorem x3: Wl "sync/atomic.AddInt64" (.add .i64) := ⟨by kernel_rfl, by kernel_rfl, by kernel_rfl, by kernel_rfl, by kernel_rfl⟩
theorem x4: Wl "sync/atomic.LoadUint32" (.load .u32) := ⟨by kernel_rfl, by kernel_rfl, by kernel_rfl, by kernel_rfl, by kernel_rfl⟩
theorem x5: Wl "sync/atomic.StoreUint32" .store := ⟨by kernel_rfl, by kernel_rfl, by kernel_rfl, by kernel_rfl, by kernel_rfl⟩
theorem x6: Wl "sync/atomic.CompareAndSwapInt32" (.cas .i32) := ⟨by kernel_rfl, by kernel_rfl, by kernel_rfl, by kernel_rfl, by kernel_rfl⟩
theorem x7: Wl "sync/atomic.AddInt32" (.add .i32) := ⟨by kernel_rfl, by kernel_rfl, by kernel_rfl, by kernel_rfl, by kernel_rfl⟩
theorem x8: Wl "internal/race.Disable" (.mark0 .disable) := ⟨by kernel_rfl, by kernel_rfl, by kernel_rfl, by kernel_rfl, by kernel_rfl⟩
theorem x9: Wl "internal/race.Enable" (.mark0 .enable) := ⟨by kernel_rfl, by kernel_rfl, by kernel_rfl, by kernel_rfl, by kernel_rfl⟩
theorem x10: Wl "internal/race.Acquire" (.marked .acquire) := ⟨by kernel_rfl, by kernel_rfl, by kernel_rfl, by kernel_rfl, by kernel_rfl⟩
theorem x11: Wl "internal/race.ReleaseMerge" (.marked .releaseMerge) := ⟨by kernel_rfl, by kernel_rfl, by kernel_rfl, by kernel_rfl, by kernel_rfl⟩
theorem x0: Extern.allNextRows.lookup "" = none := by kernel_rfl
def abc:List (String×XK):=
 [("sync/atomic.LoadInt64", .load .i64), ("sync/atomic.StoreInt64", .store), ("sync/atomic.AddInt64", .add .i64), ("sync/atomic.LoadUint32", .load .u32), ("sync/atomic.StoreUint32", .store),
  ("sync/atomic.CompareAndSwapInt32", .cas .i32), ("sync/atomic.AddInt32", .add .i32), ("internal/race.Disable", .mark0 .disable), ("internal/race.Enable", .mark0 .enable), ("internal/race.Acquire", .marked .acquire), ("internal/race.ReleaseMerge", .marked .releaseMerge)]
theorem a67:∀p,p∈abc→Wl p.1 p.2:=by
 intro p hp
 simp only[abc,List.mem_cons,List.not_mem_nil,or_false]at hp
 rcases hp with rfl|rfl|rfl|rfl|rfl|rfl|rfl|rfl|rfl|rfl|rfl
 ·exact x1
 ·exact x2
 ·exact x3
 ·exact x4
 ·exact x5
 ·exact x6
 ·exact x7
 ·exact x8
 ·exact x9
 ·exact x10
 ·exact x11
def WQ(fn:Func):Option XK:=
 match fn.body with
 |some _=>none
 |none => bif fn.origin == "" then (abc.find? fun p => fn.name == p.1).map (·.2) else none
theorem j7{fn : Func}{k : XK}(h : WQ fn = some k): fn.body.isNone = true ∧ (fn.name == "runtime.NumGoroutine") = false ∧ Extern.findNext fn = none ∧ Extern.find fn = some k.sem := by
 unfold WQ at h
 split at h
 ·cases h
 ·rename_i hb
  cases ho : fn.origin == ""
  ·rw[ho]at h;cases h
  rw[ho]at h
  simp only[cond_true,Option.map_eq_some_iff]at h
  obtain⟨p,hp,rfl⟩:=h
  have hm:=List.mem_of_find?_eq_some hp
  have hn:=List.find?_some hp
  simp only[beq_iff_eq]at hn ho
  obtain⟨a1,a2,a3,a4,a5⟩:=a67 p hm
  refine⟨by rw[hb];rfl,by rw[hn];exact a5,?_,?_⟩
  ·simp[Extern.findNext,hn,ho,a4,x0]
  ·simp[Extern.find,hn,a1,a2,a3]
theorem wQ{C:bp}{ρ:ap}{L:af}{w:World}(H:HD C ρ L w){p:PT}{x:SV}{k:IntKind}{y:IE}{v v':List F}{id:Nat}{r':am}(P:Program)(hr:rd L p 1=some (v,[x]))(hw:wr L p [.int k y]=some (v',id,r'))(hv:ar ρ v)(hv':ar ρ v'):
 w.cell? (p.addr ρ)=some (x.den ρ)∧w.frozen? (p.addr ρ)=false∧HD C ρ ((.h id,.row true r')::L) (w.setCell (p.addr ρ) (.int k (y.den ρ))):=by
 obtain⟨w',hrun,hd⟩:=Ww H hw hv' P
 have hc:=(kU H hr hv).2 0 x rfl
 have ha:(p.addr ρ).add 0=p.addr ρ:=by cases p<;>simp[PT.addr,ba]
 rw[ha]at hc
 simp only[List.map_cons,List.map_nil,storeCells,ha,Sem.run_bind,SV.den]at hrun
 rw[run_store P w _ _ _ rfl,hc]at hrun
 simp only at hrun
 cases hf:w.frozen? (p.addr ρ)
 ·rw[hf]at hrun
  simp only[Bool.false_eq_true,if_false,Result.andThen_ok,Sem.run_pure]at hrun
  obtain rfl:w.setCell (p.addr ρ) (.int k (y.den ρ))=w':=by injection hrun
  exact⟨hc,rfl,hd⟩
 ·rw[hf]at hrun
  simp only[if_true]at hrun
  cases hrun
def sXt(P:Program)(H:af)(n:Nat)(f:Nat)(l:List SV):Option OR:=
 match P.funcs[f]? with
 |some fn=>match WQ fn with
  |some (.load k)=>match l with
   |[.ptr p]=>match rd H p 1 with
    |some (v,[.int j e])=>bif gw j k then some ⟨v,[],.int j e,[],n⟩else none
    |_=>none
   |_=>none
  |some .store=>match l with
   |[.ptr p,.int k y]=>match rd H p 1,wr H p [.int k y]with
    |some (v,[x]),some (v',id,r)=>some ⟨v++v',[],.tup [],[(.h id,.row true r)],n⟩
    |_,_=>none
   |_=>none
  |some (.add k)=>match l with
   |[.ptr p,.int j y]=>match rd H p 1 with
    |some (v,[.int i e])=>match wr H p [.int k (.wrap k (.add e y))]with
     |some (v',id,r)=>bif gw j k&&gw i k then some ⟨v++v',[],.int k (.wrap k (.add e y)),[(.h id,.row true r)],n⟩else none
     |_=>none
    |_=>none
   |_=>none
  |some (.cas k)=>match l with
   |[.ptr p,.int j o,.int i y]=>match rd H p 1 with
    |some (v,[.int t e])=>match wr H p [.int k y]with
     |some (v',id,r)=>bif gw j k&&(gw i k&&gw t k)then some ⟨.be (.cmp .eql e o)::(v++v'),[],.b (.lit true),[(.h id,.row true r)],n⟩else none
     |_=>none
    |_=>none
   |_=>none
  |some (.mark0 _)=>match l with
   |[]=>some ⟨[],[],.tup [],[],n⟩
   |_=>none
  |some (.marked _)=>match l with
   |[.ptr p]=>some ⟨[],[],.tup [],[],n⟩
   |_=>none
  |none=>none
 |none=>none
theorem a68{P:Program}{C:bp}{ρ:ap}{H:af}{w:World}(HH:HD C ρ H w){n f:Nat}{l:List SV}{r:OR}(h:sXt P H n f l=some r)(hv:ar ρ r.vcs):
 (∃w',(callFunc f (l.map (SV.den ρ)).toArray).run P w=.ok (.value (r.val.den ρ)) w'∧HD C ρ (r.log++H) w')∧r.facts=[]∧r.nxt=n:=by
 unfold sXt at h
 split at h
 ·rename_i fn hf
  split at h
  ·rename_i k hk
   obtain⟨e1,e2,e3,e4⟩:=j7 hk
   split at h
   ·rename_i p
    split at h
    ·rename_i v j e hr
     cases hkk:gw j k
     ·rw[hkk]at h;cases h
     rw[hkk]at h
     obtain rfl:=Option.some.inj h
     have:=bY hkk;subst this
     have hc:=(kU HH hr hv).2 0 _ rfl
     have ha:(p.addr ρ).add 0=p.addr ρ:=by cases p<;>simp[PT.addr,ba]
     rw[ha]at hc
     exact⟨⟨w,run_call_load hf e2 e1 e3 j e4 hc,HH⟩,rfl,rfl⟩
    ·cases h
   ·cases h
  ·rename_i hk
   obtain⟨e1,e2,e3,e4⟩:=j7 hk
   split at h
   ·rename_i p k y
    split at h
    ·rename_i v x v' id r' hr hw
     obtain rfl:=Option.some.inj h
     obtain⟨hv1,hv2⟩:=aA.1 hv
     obtain⟨c1,c2,c3⟩:=wQ HH P hr hw hv1 hv2
     exact⟨⟨_,run_call_store hf e2 e1 e3 e4 c1 c2,c3⟩,rfl,rfl⟩
    ·cases h
   ·cases h
  ·rename_i k hk
   obtain⟨e1,e2,e3,e4⟩:=j7 hk
   split at h
   ·rename_i p j y
    split at h
    ·rename_i v i e hr
     split at h
     ·rename_i v' id r' hw
      cases hkk:(gw j k&&gw i k)
      ·rw[hkk]at h;cases h
      rw[hkk]at h
      obtain rfl:=Option.some.inj h
      simp only[Bool.and_eq_true]at hkk
      have:=bY hkk.1;subst this
      have:=bY hkk.2;subst this
      obtain⟨hv1,hv2⟩:=aA.1 hv
      obtain⟨c1,c2,c3⟩:=wQ HH P hr hw hv1 hv2
      exact⟨⟨_,run_call_add hf e2 e1 e3 _ e4 c1 c2 (s:=IntKind.wrap _ (e.den ρ+y.den ρ)) rfl,c3⟩,rfl,rfl⟩
     ·cases h
    ·cases h
   ·cases h
  ·rename_i k hk
   obtain⟨e1,e2,e3,e4⟩:=j7 hk
   split at h
   ·rename_i p j o i y
    split at h
    ·rename_i v t e hr
     split at h
     ·rename_i v' id r' hw
      cases hkk:(gw j k&&(gw i k&&gw t k))
      ·rw[hkk]at h;cases h
      rw[hkk]at h
      obtain rfl:=Option.some.inj h
      simp only[Bool.and_eq_true]at hkk
      have:=bY hkk.1;subst this
      have:=bY hkk.2.1;subst this
      have:=bY hkk.2.2;subst this
      obtain⟨hv0,hv3⟩:=aa.1 hv
      obtain⟨hv1,hv2⟩:=aA.1 hv3
      have he:e.den ρ=o.den ρ:=by simpa [F.holds,BE.den,bv] using hv0
      obtain⟨c1,c2,c3⟩:=wQ HH P hr hw hv1 hv2
      simp only[SV.den,he]at c1
      exact⟨⟨_,run_call_cas_hit hf e2 e1 e3 _ e4 c1 c2,c3⟩,rfl,rfl⟩
     ·cases h
    ·cases h
   ·cases h
  ·rename_i m hk
   obtain⟨e1,e2,e3,e4⟩:=j7 hk
   split at h
   ·obtain rfl:=Option.some.inj h
    exact⟨⟨w,run_call_mark0 hf e2 e1 e3 m e4 w,HH⟩,rfl,rfl⟩
   ·cases h
  ·rename_i m hk
   obtain⟨e1,e2,e3,e4⟩:=j7 hk
   split at h
   ·rename_i p
    obtain rfl:=Option.some.inj h
    exact⟨⟨w,run_call_marked hf e2 e1 e3 m e4 _ w,HH⟩,rfl,rfl⟩
   ·cases h
  ·cases h
 ·cases h
def abd(P:Program)(R H:af)(n:Nat)(c:BE)(o:Op):Option OR:=
 match o with
 |.convert src dst x=>match ep R c x with
  |some (.ptr p)=>match P.underlying src,P.underlying dst with
   |some (.pointer t),some .unsafePointer=>match(P.info? t).map (fun i=>decide (i.size=0))with
    |some false=>match rd H p 1 with
     |some (v,[x])=>some ⟨v,[],.ptr p,[],n⟩
     |_=>none
    |_=>none
   |_,_=>none
  |_=>none
 |_=>none
theorem a69{P:Program}{R H:af}{n:Nat}{c:BE}{o:Oper}{r:OR}(h:abd P R H n c o.op=some r):n9 P o c R H n r:=by
 unfold abd at h
 split at h
 ·rename_i src dst x ho
  split at h
  ·rename_i p hx
   split at h
   ·rename_i t hs hd
    split at h
    ·rename_i hz
     split at h
     ·rename_i v x' hr
      obtain rfl:=Option.some.inj h
      refine .pure fun C nt ρ a w HH RR hc hv=>?_
      have hcell:=(kU HH hr hv).2 0 _ rfl
      have ha:(p.addr ρ).add 0=p.addr ρ:=by cases p<;>simp[PT.addr,ba]
      rw[ha]at hcell
      have:=run_convert_to_unsafe hs hd hz hcell
      simp only[execOp,ho,az RR hc hx,SV.den,Sem.run_bind,this,Result.andThen_ok,Sem.run_pure]
     ·cases h
    ·cases h
   ·cases h
  ·cases h
 ·cases h
def eG(ρ:ap)(n:Nat)(z:Int):ap:={ρ with i:=fun v=>if v=n then z else ρ.i v}
def dM(ρ:ap)(n:Nat)(z:Nat→Nat→Int):ap:={ρ with l:=fun v=>if v=n then z else ρ.l v}
theorem dT(ρ:ap)(n:Nat)(z:Int):b7 n (n+1) ρ (eG ρ n z):=by
 constructor<;>intro v hv<;>first|rfl|(simp only[eG];rw[if_neg (by omega)])
theorem oa(ρ:ap)(n:Nat)(z:Nat→Nat→Int):b7 n (n+1) ρ (dM ρ n z):=by
 constructor<;>intro v hv<;>first|rfl|(simp only[dM];rw[if_neg (by omega)])
def a6a(ks:List CK)(o m:Nat):Option IntKind:=
 match ks[o]? with
 |some (.int k)=>bif (List.range m).all fun j=>(match ks[o+j]? with|some (.int k')=>gw k k'|_=>false)then some k else none
 |_=>none
theorem wR{ks:List CK}{o m:Nat}{k:IntKind}(h:a6a ks o m=some k):∀j,j<m→ks[o+j]? =some (.int k):=by
 unfold a6a at h
 split at h
 ·rename_i k0 h0
  cases hb:((List.range m).all fun j=>(match ks[o+j]? with|some (.int k')=>gw k0 k'|_=>false))
  ·rw[hb]at h;cases h
  ·rw[hb]at h
   obtain rfl:=Option.some.inj h
   intro j hj
   have:=List.all_eq_true.1 hb j (List.mem_range.2 hj)
   split at this
   ·rename_i k' hk'
    rw[hk',bY this]
   ·cases this
 ·cases h
def fxV(i:IE)(k:IE)(x:IE)(m:Nat):List F:=[.be (.cmp .lss (bf i) (bf k)),.be (.cmp .leq (.lit 0) x),.be (.cmp .lss x (.lit (m:Nat)))]
def sFx(P:Program)(R H:af)(n:Nat)(c:BE)(o:Op):Option OR:=
 match o with
 |.load t x=>match ep R c x with
  |some (.ptr (.fx fa i o x m))=>match ai (.h fa) H,BQ P t with
   |some (.row _ (.fam e ks k le)),some false=>match a6a ks o m with
    |some kd=>some ⟨fxV i k x m,[],.int kd (.var n),[],n+1⟩
    |none=>none
   |_,_=>none
  |_=>none
 |.store t x y=>match ep R c x,ep R c y with
  |some (.ptr (.fx fa i o x m)),some (.int kd e)=>match ai (.h fa) H,eZ P t with
   |some (.row true (.fam el ks k le)),some 1=>match a6a ks o m with
    |some kd'=>bif gw kd kd'&&(i.avo n (n+1)&&le.avo n (n+1))then
     some ⟨fxV i k x m,[.rel (cg.exc+3) [bf i,.lit (o:Nat),.lit (m:Nat)] [.var n,le]],.tup [],[(.h fa,.row true (.fam el ks k (.var n)))],n+1⟩else none
    |none=>none
   |_,_=>none
  |_,_=>none
 |_=>none
theorem abe{P:Program}{R H:af}{n:Nat}{c:BE}{o:Oper}{r:OR}(h:sFx P R H n c o.op=some r):n9 P o c R H n r:=by
 unfold sFx at h
 split at h
 ·rename_i t x ho
  split at h
  ·rename_i fa i o' xx m hx
   split at h
   ·rename_i ow e ks k le hl ha
    split at h
    ·rename_i kd hk
     obtain rfl:=Option.some.inj h
     intro C nt ρ a w HH RR hc hv hL
     obtain⟨v1,hv⟩:=aa.1 hv
     obtain⟨v2,hv⟩:=aa.1 hv
     obtain⟨v3,_⟩:=aa.1 hv
     have h1:=cL v1
     have h2:=cd v2
     have h3:=cL v3
     simp only[aP,IE.den]at h1 h2 h3
     obtain⟨hrow,_⟩:=HH.rows fa ow _ hl
     obtain⟨cs,hcs,hsz,hget⟩:=hrow (i.den ρ).toNat (by omega)
     have hc0:=hget (o'+(xx.den ρ).toNat) _ (wR hk (xx.den ρ).toNat (by omega))
     have hcell:w.cell? ((PT.fx fa i o' xx m).addr ρ)=some (.int kd (le.den ρ (i.den ρ).toNat (o'+(xx.den ρ).toNat))):=by
      rw[PT.addr,de hcs];exact hc0
     let z:=le.den ρ (i.den ρ).toNat (o'+(xx.den ρ).toNat)
     have hag:=dT ρ n z
     refine⟨eG ρ n z,w,.value (.int kd z),?_,.inl ?_,hag,aj _,HH.agr hag hL⟩
     ·have hrun:(Instr.loadAt t ((SV.ptr (.fx fa i o' xx m)).den ρ)).run P w=.ok (.int kd z) w:=by
       simp only[SV.den,Instr.loadAt,Instr.sureAddr,Sem.run_bind,Sem.run_pure,Result.andThen,loadVar,jG w ha,Bool.false_eq_true,if_false,run_load,hcell]
       rfl
      simp only[execOp,ho,az RR hc hx,Sem.run_bind,hrun,Result.andThen_ok,Sem.run_pure]
     ·simp only[SV.den,IE.den,eG,if_true]
    ·cases h
   ·cases h
  ·cases h
 ·rename_i t x y ho
  split at h
  ·rename_i fa i o' xx m kd e hx hy
   split at h
   ·rename_i el ks k le hl hz
    split at h
    ·rename_i kd' hk
     cases hb:(gw kd kd'&&(i.avo n (n+1)&&le.avo n (n+1)))
     ·rw[hb]at h;cases h
     rw[hb]at h
     obtain rfl:=Option.some.inj h
     simp only[Bool.and_eq_true]at hb
     obtain⟨b1,b2,b3⟩:=hb
     have:=bY b1;subst this
     intro C nt ρ a w HH RR hc hv hL
     obtain⟨v1,hv⟩:=aa.1 hv
     obtain⟨v2,hv⟩:=aa.1 hv
     obtain⟨v3,_⟩:=aa.1 hv
     have h1:=cL v1
     have h2:=cd v2
     have h3:=cL v3
     simp only[aP,IE.den]at h1 h2 h3
     let I:=(i.den ρ).toNat
     let J:=o'+(xx.den ρ).toNat
     let L':Nat→Nat→Int:=fun r j=>if r=I∧j=J then e.den ρ else le.den ρ r j
     have hag:=oa ρ n L'
     have H':=HH.agr hag hL
     have ei:i.den (dM ρ n L')=i.den ρ:=IE.ag hag i b2
     have eL:le.den (dM ρ n L')=le.den ρ:=LE.ag hag le b3
     have en:(dM ρ n L').l n=L':=by simp[dM]
     obtain⟨hrow,hinj⟩:=H'.rows fa true _ hl
     have av:=af.al hL hl
     have av2:=av.2
     simp only[aY.avo,am.avo,Bool.and_eq_true]at av2
     have ek:k.den (dM ρ n L')=k.den ρ:=IE.ag hag k av2.1
     have ef:(dM ρ n L').f fa=ρ.f fa:=hag.f fa (aF av.1)
     rw[ek]at hrow hinj
     have hi:I<(k.den ρ).toNat:=by show(i.den ρ).toNat<_;omega
     obtain⟨cs,hcs,hsz,hget⟩:=hrow _ hi
     have hJ:J<ks.length:=(List.getElem?_eq_some_iff.1 (wR hk (xx.den ρ).toNat (by omega))).1
     have hkJ:ks[J]? =some (.int kd):=wR hk (xx.den ρ).toNat (by omega)
     have hfit:J+0+[Value.int kd (e.den ρ)].length≤cs.size:=by rw[hsz];simp only[List.length_singleton];omega
     have hst:=dK P [Value.int kd (e.den ρ)] w ((dM ρ n L').f fa I) J 0 cs el hcs hfit (fun x hx=>by simp only[List.mem_singleton]at hx;subst hx;rfl)
     have hrun:∃w',(Instr.storeAt t ((SV.ptr (.fx fa i o' xx m)).den ρ) ((SV.int kd e).den ρ)).run P w=.ok () w'∧(storeCells ⟨(dM ρ n L').f fa I,J,none⟩ [Value.int kd (e.den ρ)]).run P w=.ok () w':=by
      refine⟨_,?_,hst⟩
      simp only[SV.den,Instr.storeAt,Instr.sureAddr,Sem.run_bind,Sem.run_pure,Result.andThen,storeVar,bC w hz,Value.cells,List.size_toArray,List.length_singleton,ne_eq,not_true_eq_false,if_false]
      rw[ef]at hst
      exact hst
     obtain⟨w',hr1,hr2⟩:=hrun
     rw[hst]at hr2
     have hW:=(Result.ok.inj hr2).2
     refine⟨dM ρ n L',w',.skip,?_,.inr ⟨rfl,?_⟩,hag,aa.2 ⟨?_,aj _⟩,?_⟩
     ·simp only[execOp,ho,az RR hc hx,az RR hc hy,Sem.run_bind,hr1,Result.andThen_ok,Sem.run_pure]
     ·rfl
     ·simp only[F.holds,List.map_cons,List.map_nil,bF]
      refine cg.exc_ok _ _ ?_
      simp only[BL,aP,ei,IE.den,LE.den,en,eL]
      intro r j hrj
      show(if r=I∧j=J then e.den ρ else le.den ρ r j)=_
      rw[if_neg]
      rintro⟨rfl,rfl⟩
      have:(I:Int)=((i.den ρ).toNat:Int):=rfl
      have:(J:Int)=(o':Int)+((xx.den ρ).toNat:Int):=by show((o'+(xx.den ρ).toNat:Nat):Int)=_;omega
      omega
     ·subst hW
      refine H'.put hl (b:=(dM ρ n L').f fa I) ⟨_,by rw[ek];exact hi,rfl⟩ (fun c=>Iff.rfl) ?_
      simp only[am.holds,ek,LE.den,en]
      refine⟨fun a ha=>?_,hinj⟩
      by_cases hai:a=I
      ·subst hai
       refine⟨_,bG _ _ _ (aw hcs),by rw[cC];exact hsz,fun j kk hkk=>?_⟩
       have hjk:j<ks.length:=(List.getElem?_eq_some_iff.1 hkk).1
       rw[df _ _ _ (by simpa using hfit)]
       simp only[List.length_singleton]
       by_cases hj:j=J
       ·subst hj
        rw[if_pos ⟨by omega,by omega⟩]
        rw[hkJ]at hkk
        obtain rfl:=Option.some.inj hkk
        simp[L',CK.v]
       ·rw[if_neg (by omega),hget j kk hkk,eL]
        show some (kk.v _ _ (le.den ρ I j))=some (kk.v _ _ (if I=I∧j=J then e.den ρ else le.den ρ I j))
        rw[if_neg (fun g=>hj g.2)]
      ·obtain⟨cs2,hcs2,hsz2,hget2⟩:=hrow a ha
       refine⟨cs2,by rw[er _ _ _ (fun e=>hai (hinj _ _ ha hi e))];exact hcs2,hsz2,fun j kk hkk=>?_⟩
       rw[hget2 j kk hkk,eL]
       show some (kk.v _ _ (le.den ρ a j))=some (kk.v _ _ (if a=I∧j=J then e.den ρ else le.den ρ a j))
       rw[if_neg (fun g=>hai g.1)]
    ·cases h
   ·cases h
  ·cases h
 ·cases h
end
section
variable [cg] [Fm]
def dF(i:IE):Nat→List SV→LE→LE
 |_,[],le=>le
 |j,.int _ e::r,le=>dF i (j+1) r (.upd le i j e)
 |j,.b c::r,le=>dF i (j+1) r (.upd le i j (.ite c (.lit 1) (.lit 0)))
 |j,_::r,le=>dF i (j+1) r le
theorem fi{ρ:ap}{i:IE}:∀{l:List SV} {j:Nat} {le:LE} {r d:Nat},(r≠(i.den ρ).toNat∨d<j)→(dF i j l le).den ρ r d=le.den ρ r d
 |[],j,le,r,d,h=>rfl
 |s::l,j,le,r,d,h=>by
  have h':r≠(i.den ρ).toNat∨d<j+1:=by omega
  cases s with
  |int k e=>
   simp only[dF]
   rw[fi h']
   simp only[LE.den,ah]
   rw[if_neg (by omega)]
  |b c=>
   simp only[dF]
   rw[fi h']
   simp only[LE.den,ah]
   rw[if_neg (by omega)]
  |_=>simp only[dF];exact fi h'
theorem qd{s:SV}{l:List SV}{ks:List CK}(h:pw (s::l)=some ks):∃k r,kOf s=some k∧pw l=some r∧ks=k::r:=by
 simp only[pw]at h
 split at h
 ·rename_i k r h1 h2
  exact⟨k,r,h1,h2,(Option.some.inj h).symm⟩
 ·cases h
theorem nD{ρ:ap}{i:IE}:∀{l:List SV} {ks:List CK} {j:Nat} {le:LE},pw l=some ks→∀(t:Nat) (s:SV) (k:CK),l[t]? =some s→ks[t]? =some k→∀(ρ':ap) (x:Nat),s.den ρ=k.v ρ' x ((dF i j l le).den ρ (i.den ρ).toNat (j+t))
 |[],ks,j,le,h,t,s,k,hs,hk,ρ',x=>by simp at hs
 |a::l,ks,j,le,h,t,s,k,hs,hk,ρ',x=>by
  obtain⟨k0,r0,h1,h2,rfl⟩:=qd h
  cases t with
  |zero=>
   obtain rfl:=Option.some.inj hs
   obtain rfl:=Option.some.inj hk
   cases a with
   |int kk e=>
    obtain rfl:=Option.some.inj h1
    simp only[dF,Nat.add_zero]
    rw[fi (.inr (by omega))]
    simp[LE.den,ah,SV.den,CK.v]
   |b c=>
    obtain rfl:=Option.some.inj h1
    simp only[dF,Nat.add_zero]
    rw[fi (.inr (by omega))]
    simp only[LE.den,ah,SV.den,CK.v,IE.den]
    cases hc:c.den ρ<;>simp
   |_=>cases h1
  |succ t=>
   have hs':l[t]? =some s:=by simpa using hs
   have hk':r0[t]? =some k:=by simpa using hk
   rw[show j+(t+1)=j+1+t by omega]
   cases a with
   |int kk e=>simp only[dF];exact nD h2 t s k hs' hk' ρ' x
   |b c=>simp only[dF];exact nD h2 t s k hs' hk' ρ' x
   |_=>cases h1
theorem C7:∀{l:List SV} {ks:List CK},pw l=some ks→ks.length=l.length
 |[],ks,h=>by obtain rfl:=Option.some.inj h;rfl
 |a::l,ks,h=>by
  obtain⟨k,r,h1,h2,rfl⟩:=qd h
  simp only[List.length_cons,C7 h2]
theorem WR:∀{l:List SV} {ks:List CK},pw l=some ks→∀(t:Nat) (k:CK),ks[t]? =some k→∀(ρ ρ':ap) (i i':Nat) (n:Int),k.v ρ i n=k.v ρ' i' n
 |[],ks,h,t,k,hk,ρ,ρ',i,i',n=>by obtain rfl:=Option.some.inj h;simp at hk
 |a::l,ks,h,t,k,hk,ρ,ρ',i,i',n=>by
  obtain⟨k0,r,h1,h2,rfl⟩:=qd h
  cases t with
  |zero=>
   obtain rfl:=Option.some.inj hk
   cases a<;>first|(obtain rfl:=Option.some.inj h1;rfl)|cases h1
  |succ t=>exact WR h2 t k (by simpa using hk) ρ ρ' i i' n
def WS(H:af)(e ef:TypeId)(ks:List CK)(s:SV):Option (Option (Nat×Nat)×IE×IE×LE):=
 match s with
 |.nils=>some (none,.lit 0,.lit 0,.var 0)
 |.lst L=>match ai (.h L) H with
  |some (.row true (.lst e' [.ptr F] m _))=>match ai (.h F) H with
   |some (.row true (.fam ef' ks' mF leF))=>bif Nat.beq e e'&&(Nat.beq ef ef'&&dl.CK.eqs0 ks ks')then some (some (L,F),m,mF,leF)else none
   |_=>none
  |_=>none
 |_=>none
def MU(ids:Option (Nat×Nat))(j:Nat):Prop:=∃L F,ids=some (L,F)∧(j=L∨j=F)
def a6b(fF:Nat→Nat):Nat→Nat→Option Value:=fun r j=>if j=0 then some (.pointer (some ⟨fF r,0,none⟩))else none
theorem WT{C:bp}{ρ:ap}{H:af}{w:World}(HH:HD C ρ H w){e ef:TypeId}{ks:List CK}{s:SV}{ids:Option (Nat×Nat)}{m mF:IE}{leF:LE}(h:WS H e ef ks s=some (ids,m,mF,leF))(hm:mF.den ρ=m.den ρ):
 ∃(b:Bool) (k off:Nat) (fF:Nat→Nat),fS w e 1 (m.den ρ).toNat (a6b fF) b k off (s.den ρ)∧
  (b=true→¬C.keep k∧∀j p t,¬MU ids j→ai (.h j) H=some (.row p t)→¬t.owns ρ j k)∧
  (∀i,i<(m.den ρ).toNat→∃cs:Array Value,w.heap[fF i]? =some (.cells cs ef (0,0))∧cs.size=ks.length∧∀(j:Nat) (k:CK),ks[j]? =some k→cs[j]? =some (k.v ρ i (leF.den ρ i j)))∧
  (∀i j,i<(m.den ρ).toNat→j<(m.den ρ).toNat→fF i=fF j→i=j)∧
  (∀i,i<(m.den ρ).toNat→¬C.keep (fF i)∧∀j p t,¬MU ids j→ai (.h j) H=some (.row p t)→¬t.owns ρ j (fF i))∧
  (∀L F,ids=some (L,F)→(∃q,ai (.h L) H=some (.row true (.lst e [.ptr F] m q)))∧ai (.h F) H=some (.row true (.fam ef ks mF leF)))∧
  (b=true→∀i,i<(m.den ρ).toNat→k≠fF i):=by
 unfold WS at h
 split at h
 ·simp only[Option.some.injEq,Prod.mk.injEq]at h
  obtain⟨rfl,rfl,rfl,rfl⟩:=h
  refine⟨false,0,0,fun _=>0,⟨fun _=>⟨rfl,.inl rfl⟩,fun h=>(by cases h)⟩,fun h=>(by cases h),?_,?_,?_,fun L F h=>(by cases h),fun h=>(by cases h)⟩
  ·intro i hi;simp[IE.den]at hi
  ·intro i j hi;simp[IE.den]at hi
  ·intro i hi;simp[IE.den]at hi
 ·rename_i L
  split at h
  ·rename_i e' F m' q hL
   split at h
   ·rename_i ef' ks' mF' leF' hF
    cases hb:(Nat.beq e e'&&(Nat.beq ef ef'&&dl.CK.eqs0 ks ks'))
    ·rw[hb]at h;cases h
    ·rw[hb]at h
     simp only[cond_true,Option.some.injEq,Prod.mk.injEq]at h
     obtain⟨rfl,rfl,rfl,rfl⟩:=h
     simp only[Bool.and_eq_true]at hb
     have:=Nat.eq_of_beq_eq_true hb.1;subst this
     have:=Nat.eq_of_beq_eq_true hb.2.1;subst this
     have:=dl.lF hb.2.2;subst this
     have hl:=(bz ρ L w e [.ptr F] m' q).1 (HH.rows L true _ hL)
     have hf:=HH.rows F true _ hF
     simp only[am.holds]at hf
     rw[hm]at hf
     refine⟨ρ.b L,ρ.k L,ρ.f L 0,ρ.f F,?_,fun hb'=>⟨HH.own L _ hL _ ⟨hb',rfl⟩,fun j p t hj ht=>HH.apart (fun e=>hj ⟨L,F,rfl,.inl e.symm⟩) hL ht (.inl rfl) ⟨hb',rfl⟩⟩,hf.1,hf.2,?_,?_,?_⟩
     ·refine fS.mono hl fun i hi j v hv=>?_
      unfold a6b at hv
      split at hv
      ·rename_i hj;subst hj
       obtain rfl:=Option.some.inj hv
       rfl
      ·cases hv
     ·intro i hi
      have ho:(am.fam ef ks mF' leF').owns ρ F (ρ.f F i):=⟨i,by rw[hm];exact hi,rfl⟩
      exact⟨HH.own F _ hF _ ho,fun j p t hj ht=>HH.apart (fun e=>hj ⟨L,F,rfl,.inr e.symm⟩) hF ht (.inl rfl) ho⟩
     ·intro L' F' h
      simp only[Option.some.injEq,Prod.mk.injEq]at h
      obtain⟨rfl,rfl⟩:=h
      exact⟨⟨q,hL⟩,hF⟩
     ·intro hb' i hi he
      have hLF:L≠F:=fun e=>by rw[e,hF]at hL;cases hL
      exact HH.apart hLF hL hF (.inl rfl) (b:=ρ.k L) ⟨hb',rfl⟩ ⟨i,by rw[hm];exact hi,he⟩
   ·cases h
  ·cases h
 ·cases h
def na(ids:Option (Nat×Nat)):af:=
 match ids with
 |some (L,F)=>[(.h L,.gone),(.h F,.gone)]
 |none=>[]
def WU(P:Program)(H:af)(n:Nat)(t tx:TypeId)(s x:SV):Option OR:=
 match P.underlying t,P.underlying tx with
 |some (.slice e),some (.slice _)=>
  match P.info? e with
  |some info=>
   match info.zero with
   |some zv=>
    match x with
    |.sl (.at id 0) (.lit (.ofNat 1)) _=>match ai (.h id) H with
     |some (.row _ (.cells _ [.ptr (.at X 0)]))=>match ai (.h X) H with
      |some (.row true (.cells ef lX))=>match pw lX with
       |some ks=>match WS H e ef ks s with
        |some (ids,m,mF,leF)=>
         bif !(Nat.beq e 0)&&(Nat.beq info.size 1&&(Nat.beq zv.cells.size info.size&&(Nat.ble info.bytes 16384&&(m.avo n (n+2)&&(leF.avo n (n+2)&&(SV.avos n (n+2) lX&&af.avo n (n+1) [(.h (n+1),.row true (.fam ef ks (cK m (.lit 1)) (dF m 0 lX leF)))]))))))then
          some ⟨[.be (.cmp .leq (cK m (.lit 1)) (.lit 4294967296)),.be (.cmp .leq (.lit 0) m),.be (.cmp .eql mF m)],[],.lst n,
           (.h n,.row true (.lst e [.ptr (n+1)] (cK m (.lit 1)) (.var 0)))::(.h (n+1),.row true (.fam ef ks (cK m (.lit 1)) (dF m 0 lX leF)))::(.h X,.gone)::na ids,n+2⟩
         else none
        |none=>none
       |none=>none
      |_=>none
     |_=>none
    |_=>none
   |none=>none
  |none=>none
 |_,_=>none
def WV(ρ:ap)(n:Nat)(g:Nat→Nat):ap:={ρ with f:=fun v=>if v=n then g else ρ.f v}
theorem WW(ρ:ap)(n:Nat)(g:Nat→Nat):b7 n (n+1) ρ (WV ρ n g):=by
 constructor<;>intro v hv<;>first|rfl|(simp only[WV];rw[if_neg (by omega)])
theorem gc{ids:Option (Nat×Nat)}{X:Nat}{H:af}{j:Nat}{o:Bool}{r:am}(h:ai (.h j) ((.h X,.gone)::(na ids++H))=some (.row o r)):j≠X∧¬MU ids j∧ai (.h j) H=some (.row o r):=by
 rw[ak]at h
 by_cases hX:aO.h X=aO.h j
 ·rw[if_pos hX]at h;cases h
 ·rw[if_neg hX]at h
  refine⟨fun e=>hX (by rw[e]),?_⟩
  cases ids with
  |none=>exact⟨fun⟨L,F,e,_⟩=>(by cases e),h⟩
  |some p=>
   obtain⟨L,F⟩:=p
   simp only[na,List.cons_append,List.nil_append]at h
   rw[ak]at h
   by_cases hL:aO.h L=aO.h j
   ·rw[if_pos hL]at h;cases h
   ·rw[if_neg hL,ak]at h
    by_cases hF:aO.h F=aO.h j
    ·rw[if_pos hF]at h;cases h
    ·rw[if_neg hF]at h
     refine⟨fun⟨L',F',e,hj⟩=>?_,h⟩
     simp only[Option.some.injEq,Prod.mk.injEq]at e
     obtain⟨rfl,rfl⟩:=e
     rcases hj with rfl|rfl
     ·exact hL rfl
     ·exact hF rfl
end
end Go.Proofs.YteelgjcnkhmigaaGreatDoor.E
