/- Part 1 of the proofs of TopPhases, TopDoors and TopCutOff (over all inputs, no condition): the executor, and what the functions that they reach do. -/
import Derived.Test.YteelgjcnkhmigaaGreatDoorA0
import Derived.LoopN
import Derived.Deep.LoopGhost
import Derived.LoopNIn
import Derived.OrdersIn
import Derived.TacticsIn
import Derived.Scope
set_option linter.unusedVariables false
set_option linter.unusedSimpArgs false
set_option linter.unusedSectionVars false
set_option maxHeartbeats 0
set_option maxRecDepth 100000
namespace Go.Proofs.YteelgjcnkhmigaaGreatDoor.E
open Go.RowKit
section
variable [cg] [Fm]
def ay:Nat:=1000000000
theorem bZ{lo hi lo' hi' v:Nat}(h1:lo≤lo')(h2:hi'≤hi)(h:off lo hi v=true):off lo' hi' v=true:=by
 unfold off
 rcases aF h with g|g
 ·rw[Bool.or_eq_true];exact .inl (Nat.ble_eq_true_of_le (by omega))
 ·rw[Bool.or_eq_true];exact .inr (Nat.ble_eq_true_of_le (by omega))
section
variable {lo hi lo' hi' : Nat} (h1 : lo ≤ lo') (h2 : hi' ≤ hi)
include h1 h2
mutual
theorem IE.ad:∀e:IE,e.avo lo hi=true→e.avo lo' hi'=true
 |.lit _,_=>rfl
 |.var v,g=>bZ h1 h2 g
 |.add a b,g=>by simp only[IE.avo,Bool.and_eq_true]at g⊢;exact⟨IE.ad a g.1,IE.ad b g.2⟩
 |.sub a b,g=>by simp only[IE.avo,Bool.and_eq_true]at g⊢;exact⟨IE.ad a g.1,IE.ad b g.2⟩
 |.mul a b,g=>by simp only[IE.avo,Bool.and_eq_true]at g⊢;exact⟨IE.ad a g.1,IE.ad b g.2⟩
 |.quo a b,g=>by simp only[IE.avo,Bool.and_eq_true]at g⊢;exact⟨IE.ad a g.1,IE.ad b g.2⟩
 |.rem a b,g=>by simp only[IE.avo,Bool.and_eq_true]at g⊢;exact⟨IE.ad a g.1,IE.ad b g.2⟩
 |.mx a b,g=>by simp only[IE.avo,Bool.and_eq_true]at g⊢;exact⟨IE.ad a g.1,IE.ad b g.2⟩
 |.mn a b,g=>by simp only[IE.avo,Bool.and_eq_true]at g⊢;exact⟨IE.ad a g.1,IE.ad b g.2⟩
 |.bits _ _ a b,g=>by simp only[IE.avo,Bool.and_eq_true]at g⊢;exact⟨IE.ad a g.1,IE.ad b g.2⟩
 |.shl _ a b,g=>by simp only[IE.avo,Bool.and_eq_true]at g⊢;exact⟨IE.ad a g.1,IE.ad b g.2⟩
 |.shr _ a b,g=>by simp only[IE.avo,Bool.and_eq_true]at g⊢;exact⟨IE.ad a g.1,IE.ad b g.2⟩
 |.wrap _ a,g=>by simp only[IE.avo]at g⊢;exact IE.ad a g
 |.nat a,g=>by simp only[IE.avo]at g⊢;exact IE.ad a g
 |.ite c a b,g=>by simp only[IE.avo,Bool.and_eq_true]at g⊢;exact⟨BE.ad c g.1,IE.ad a g.2.1,IE.ad b g.2.2⟩
 |.get l i _,g=>by simp only[IE.avo,Bool.and_eq_true]at g⊢;exact⟨LE.ad l g.1,IE.ad i g.2⟩
theorem BE.ad:∀e:BE,e.avo lo hi=true→e.avo lo' hi'=true
 |.lit _,_=>rfl
 |.var v,g=>bZ h1 h2 g
 |.not a,g=>by simp only[BE.avo]at g⊢;exact BE.ad a g
 |.cmp _ a b,g=>by simp only[BE.avo,Bool.and_eq_true]at g⊢;exact⟨IE.ad a g.1,IE.ad b g.2⟩
 |.ite c a b,g=>by simp only[BE.avo,Bool.and_eq_true]at g⊢;exact⟨BE.ad c g.1,BE.ad a g.2.1,BE.ad b g.2.2⟩
 |.eqb a b,g=>by simp only[BE.avo,Bool.and_eq_true]at g⊢;exact⟨BE.ad a g.1,BE.ad b g.2⟩
theorem LE.ad:∀e:LE,e.avo lo hi=true→e.avo lo' hi'=true
 |.var v,g=>bZ h1 h2 g
 |.upd l i _ e,g=>by simp only[LE.avo,Bool.and_eq_true]at g⊢;exact⟨LE.ad l g.1,IE.ad i g.2.1,IE.ad e g.2.2⟩
 |.ite c a b,g=>by simp only[LE.avo,Bool.and_eq_true]at g⊢;exact⟨BE.ad c g.1,LE.ad a g.2.1,LE.ad b g.2.2⟩
end
theorem PT.ad(p:PT)(g:p.avo lo hi=true):p.avo lo' hi'=true:=by
 cases p with
 |«at» a b=>exact bZ h1 h2 g
 |ax a b c d=>simp only[PT.avo,Bool.and_eq_true]at g⊢;exact⟨bZ h1 h2 g.1,IE.ad h1 h2 _ g.2⟩
 |fm a b c=>simp only[PT.avo,Bool.and_eq_true]at g⊢;exact⟨bZ h1 h2 g.1,IE.ad h1 h2 _ g.2⟩
 |el a b c d=>simp only[PT.avo,Bool.and_eq_true]at g⊢;exact⟨bZ h1 h2 g.1,IE.ad h1 h2 _ g.2⟩
 |fx a b c d e=>simp only[PT.avo,Bool.and_eq_true]at g⊢;exact⟨bZ h1 h2 g.1,IE.ad h1 h2 _ g.2.1,IE.ad h1 h2 _ g.2.2⟩
mutual
theorem SV.ad:∀s:SV,s.avo lo hi=true→s.avo lo' hi'=true
 |.b e,g=>BE.ad h1 h2 e g
 |.int _ e,g=>IE.ad h1 h2 e g
 |.ptr p,g=>PT.ad h1 h2 p g
 |.sl p n c,g=>by simp only[SV.avo,Bool.and_eq_true]at g⊢;exact⟨PT.ad h1 h2 p g.1,IE.ad h1 h2 n g.2.1,IE.ad h1 h2 c g.2.2⟩
 |.nilp,_=>rfl
 |.nils,_=>rfl
 |.nilf,_=>rfl
 |.con _,_=>rfl
 |.fn _ a c,g=>by simp only[SV.avo,Bool.and_eq_true]at g⊢;exact⟨SV.aq a g.1,SV.aq c g.2⟩
 |.agg l,g=>SV.aq l g
 |.tup l,g=>SV.aq l g
 |.opq v,g=>bZ h1 h2 g
 |.map v,g=>bZ h1 h2 g
 |.lst v,g=>bZ h1 h2 g
 |.yv v i,g=>by simp only[SV.avo,Bool.and_eq_true]at g⊢;exact⟨bZ h1 h2 g.1,IE.ad h1 h2 i g.2⟩
theorem SV.aq:∀l:List SV,SV.avos lo hi l=true→SV.avos lo' hi' l=true
 |[],_=>rfl
 |s::r,g=>by simp only[SV.avos,Bool.and_eq_true]at g⊢;exact⟨SV.ad s g.1,SV.aq r g.2⟩
end
theorem CK.ad(c:CK)(g:c.avo lo hi=true):c.avo lo' hi'=true:=by
 cases c<;>first|rfl|exact bZ h1 h2 g
theorem am.ad(r:am)(g:r.avo lo hi=true):r.avo lo' hi'=true:=by
 cases r with
 |cells e l=>exact SV.aq h1 h2 l g
 |lst e ks n le=>simp only[am.avo,Bool.and_eq_true,List.all_eq_true]at g⊢;exact⟨IE.ad h1 h2 n g.1,LE.ad h1 h2 le g.2.1,fun k hk=>CK.ad h1 h2 k (g.2.2 k hk)⟩
 |fam e ks n le=>simp only[am.avo,Bool.and_eq_true,List.all_eq_true]at g⊢;exact⟨IE.ad h1 h2 n g.1,LE.ad h1 h2 le g.2.1,fun k hk=>CK.ad h1 h2 k (g.2.2 k hk)⟩
 |any e z=>rfl
 |mp l=>rfl
 |mi l=>rfl
 |glob e g k l=>rfl
 |sls e ks n le=>simp only[am.avo,Bool.and_eq_true]at g⊢;exact⟨IE.ad h1 h2 n g.1,LE.ad h1 h2 le g.2⟩
theorem aY.ad(e:aY)(g:e.avo lo hi=true):e.avo lo' hi'=true:=by
 cases e with
 |reg c s=>simp only[aY.avo,Bool.and_eq_true]at g⊢;exact⟨BE.ad h1 h2 c g.1,SV.ad h1 h2 s g.2⟩
 |row o r=>exact am.ad h1 h2 r g
 |gone=>rfl
theorem aO.ad(k:aO)(g:k.avo lo hi=true):k.avo lo' hi'=true:=by
 cases k with
 |r t=>rfl
 |h id=>exact bZ h1 h2 g
theorem af.ad:∀L:af,af.avo lo hi L=true→af.avo lo' hi' L=true
 |[],_=>rfl
 |(k,e)::r,g=>by simp only[af.avo,Bool.and_eq_true]at g⊢;exact⟨⟨aO.ad h1 h2 k g.1.1,aY.ad h1 h2 e g.1.2⟩,af.ad r g.2⟩
theorem F.ad:∀f:F,f.avo lo hi=true→f.avo lo' hi'=true
 |.be b,g=>BE.ad h1 h2 b g
 |.rel r is ls,g=>by
  simp only[F.avo,Bool.and_eq_true,List.all_eq_true]at g⊢
  exact⟨fun x hx=>IE.ad h1 h2 x (g.1 x hx),fun x hx=>LE.ad h1 h2 x (g.2 x hx)⟩
 |.imp c f,g=>by simp only[F.avo,Bool.and_eq_true]at g⊢;exact⟨BE.ad h1 h2 c g.1,F.ad f g.2⟩
theorem F.aq{l:List F}(g:F.avos lo hi l=true):F.avos lo' hi' l=true:=by
 simp only[F.avos,List.all_eq_true]at g⊢
 exact fun f hf=>F.ad h1 h2 f (g f hf)
end
theorem F.bt{lo hi:Nat}{l m:List F}(h:F.avos lo hi l=true)(g:F.avos lo hi m=true):F.avos lo hi (l++m)=true:=by
 simp only[F.avos,List.all_append,Bool.and_eq_true]at*;exact⟨h,g⟩
inductive T (α:Type) where
 |lf (x:α)
 |nd (c:BE) (a b:T α)
 |or (a b:T α)
 |no
def T.post{α:Type}(ρ:ap)(p:α→Prop):T α→Prop
 |.lf x=>p x
 |.nd c a b=>if c.den ρ then a.post ρ p else b.post ρ p
 |.or a b=>a.post ρ p∨b.post ρ p
 |.no=>False
def T.all{α:Type}(n:Nat)(p:α→Prop):T α→Prop
 |.lf x=>p x
 |.nd c a b=>c.avo n ay=true∧a.all n p∧b.all n p
 |.or a b=>a.all n p∧b.all n p
 |.no=>True
theorem T.bd{α:Type}{ρ:ap}{p q:α→Prop}(h:∀x,p x→q x):∀{t:T α},t.post ρ p→t.post ρ q
 |.lf x,g=>h x g
 |.nd c a b,g=>by
  simp only[T.post]at g⊢
  split at g
  ·rename_i hc;rw[if_pos hc];exact T.bd h g
  ·rename_i hc;rw[if_neg hc];exact T.bd h g
 |.or a b,g=>by
  simp only[T.post]at g⊢
  exact g.imp (T.bd h) (T.bd h)
 |.no,g=>g.elim
theorem T.bo{α:Type}{n m:Nat}{p q:α→Prop}(hn:n≤m)(h:∀x,p x→q x):∀{t:T α},t.all n p→t.all m q
 |.lf x,g=>h x g
 |.nd c a b,g=>⟨BE.ad hn (Nat.le_refl _) c g.1,T.bo hn h g.2.1,T.bo hn h g.2.2⟩
 |.or a b,g=>⟨T.bo hn h g.1,T.bo hn h g.2⟩
 |.no,_=>trivial
abbrev dU:=List (List F×F)
def ab(v:dU):Prop:=∀x,x∈v→∀ρ,ar ρ x.1→x.2.holds ρ
theorem ab.app{v u:dU}(h:ab (v++u)):ab v∧ab u:=⟨fun x hx=>h x (List.mem_append.2 (.inl hx)),fun x hx=>h x (List.mem_append.2 (.inr hx))⟩
structure dt where
 fs:List F
 pc:List F
 s:SV
 pre:af
structure sQ where
 vcs:dU
 t:T dt
 n:Nat
def dt.ws(n:Nat)(x:dt):Prop:=F.avos n ay x.fs=true∧F.avos n ay x.pc=true∧x.s.avo n ay=true∧af.avo n ay x.pre=true
theorem dt.bh{n m:Nat}(h:n≤m){x:dt}(g:x.ws n):x.ws m:=
 ⟨F.aq h (Nat.le_refl _) g.1,F.aq h (Nat.le_refl _) g.2.1,SV.ad h (Nat.le_refl _) _ g.2.2.1,af.ad h (Nat.le_refl _) _ g.2.2.2⟩
abbrev aU:=Nat→List SV→Nat→af→List F→Option sQ
def bI(P:Program)(call:aU):Prop:=
 ∀(f:Nat) (args:List SV) (n:Nat) (H:af) (g:List F) (out:sQ),call f args n H g=some out→af.avo n ay H=true→SV.avos n ay args=true→F.avos n ay g=true→n≤ay→
  n≤out.n∧out.n≤ay∧out.t.all out.n (dt.ws out.n)∧
  (ab out.vcs→∀(C:bp) (ρ:ap) (w:World),ar ρ g→HD C ρ H w→
    Calls P f (args.map (SV.den ρ)).toArray w fun e w'=>∃ρ',b7 n out.n ρ ρ'∧
     out.t.post ρ' fun x=>ar ρ' x.fs∧ar ρ' x.pc∧e=.returned (x.s.den ρ')∧HD C ρ' (x.pre++H) w')
def lI(P:Program)(f:Nat):Bool:=
 match P.funcs[f]? with
 |some fn=>fn.body.isSome
 |none=>false
def iS(P : Program): Prop := ∀ (f : Nat) (fn : Func), P.funcs[f]? = some fn → (fn.name == "runtime.NumGoroutine") = false
theorem ob{P:Program}(hN:iS P){f:Nat}(h:lI P f=true)(args:Array Value)(w:World):(callFunc f args).run P w=.ok (.enter f args) w:=by
 unfold lI at h
 split at h
 ·rename_i fn hf
  have h1:=hN f fn hf
  have h2:fn.body.isNone=false:=by cases hb:fn.body<;>simp_all
  simp only[callFunc,Sem.run_bind,run_program,Result.andThen_ok,hf,h1,h2,Bool.false_eq_true,if_false]
  rfl
 ·cases h
def nE:F→Bool
 |.be (.lit true)=>true
 |_=>false
theorem qe{f:F}(h:nE f=true)(ρ:ap):f.holds ρ:=by
 unfold nE at h;split at h
 ·rfl
 ·cases h
def qf:List F→List (BE×SV)→SV→T dt
 |ps,[],s=> .lf ⟨[],ps,s,[]⟩
 |ps,(c,x)::r,s=> .nd c (.lf ⟨[],.be c::ps,x,[]⟩) (qf (.be (dj c)::ps) r s)
def jL(n:Nat):List (BE×SV)→SV→Bool
 |[],s=>s.avo n ay
 |(c,x)::r,s=>c.avo n ay&&((dj c).avo n ay&&(x.avo n ay&&jL n r s))
theorem qg{n:Nat}:∀{l:List (BE×SV)} {s:SV} {ps:List F},jL n l s=true→F.avos n ay ps=true→(qf ps l s).all n (dt.ws n)
 |[],s,ps,h,hp=>⟨rfl,hp,h,rfl⟩
 |(c,x)::r,s,ps,h,hp=>by
  simp only[jL,Bool.and_eq_true]at h
  refine⟨h.1,⟨rfl,?_,h.2.2.1,rfl⟩,qg h.2.2.2 ?_⟩
  ·simp only[F.avos,List.all_cons,F.avo,h.1,Bool.true_and]at hp⊢;exact hp
  ·simp only[F.avos,List.all_cons,F.avo,h.2.1,Bool.true_and]at hp⊢;exact hp
theorem kX{ρ:ap}{q:SV→Prop}:∀{l:List (BE×SV)} {s:SV} {ps:List F},ar ρ ps→(∀x:SV,x.den ρ=fz ρ l s→q x)→(qf ps l s).post ρ fun x=>x.fs=[]∧ar ρ x.pc∧q x.s∧x.pre=[]
 |[],s,ps,hp,hq=>⟨rfl,hp,hq s rfl,rfl⟩
 |(c,x)::r,s,ps,hp,hq=>by
  simp only[qf,T.post]
  cases hc:c.den ρ with
  |true=>
   rw[if_pos rfl]
   exact⟨trivial,aa.2 ⟨hc,hp⟩,hq x (by simp only[fz,hc,if_true]),trivial⟩
  |false=>
   rw[if_neg (by decide)]
   refine kX (aa.2 ⟨by simp only[F.holds,cJ,hc];rfl,hp⟩) fun y hy=>hq y (by rw[hy];simp only[fz,hc,Bool.false_eq_true,if_false])
def aa3(P:Program)(R H:af)(c:BE)(o:Op):Option (List (BE×SV)×SV):=
 match o with
 |.lookup t m k ok=>match ep R c m,ep R c k with
  |some sm,some sk=>Hh P H t sm sk ok
  |_,_=>none
 |_=>none
theorem SV.MV{lo hi:Nat}:∀{l:List SV} {o:Nat} {s:SV},SV.avos lo hi l=true→l[o]? =some s→s.avo lo hi=true
 |[],o,s,h,ho=>by simp at ho
 |a::l,o,s,h,ho=>by
  simp only[SV.avos,Bool.and_eq_true]at h
  cases o with
  |zero=>obtain rfl:=Option.some.inj ho;exact h.1
  |succ o=>exact SV.MV h.2 (by simpa using ho)
theorem OS{P:Program}{C:bp}{ρ:ap}{H:af}{w:World}(HH:HD C ρ H w){n:Nat}{t tx ty:TypeId}{s x:SV}{r:OR}(h:WU P H n t tx s x=some r)(hL:af.avo n r.nxt H=true)(hv:ar ρ r.vcs):
 ∃ρ' w',(Builtin.append_ #[t,tx] ty #[s.den ρ,x.den ρ]).run P w=.ok (r.val.den ρ') w'∧b7 n r.nxt ρ ρ'∧ar ρ' r.facts∧HD C ρ' (r.log++H) w':=by
 unfold WU at h
 split at h
 ·rename_i e ex ht htx
  split at h
  ·rename_i info hi
   split at h
   ·rename_i zv hz
    split at h
    ·rename_i id cap
     split at h
     ·rename_i o1 e1 X hid
      split at h
      ·rename_i ef lX hX
       split at h
       ·rename_i ks hks
        split at h
        ·rename_i ids m mF leF hfam
         generalize hg:(!(Nat.beq e 0)&&(Nat.beq info.size 1&&(Nat.beq zv.cells.size info.size&&(Nat.ble info.bytes 16384&&(m.avo n (n+2)&&(leF.avo n (n+2)&&(SV.avos n (n+2) lX&&af.avo n (n+1) [(.h (n+1),.row true (.fam ef ks (cK m (.lit 1)) (dF m 0 lX leF)))])))))))=g at h
         cases g with
         |false=>cases h
         |true=>
          obtain rfl:=Option.some.inj h
          simp only[Bool.and_eq_true,Bool.not_eq_true']at hg
          obtain⟨g1,g2,g3,g4,g5,g6,g7,g8⟩:=hg
          have hz1:=Nat.eq_of_beq_eq_true g2
          have hby:=Nat.le_of_ble_eq_true g4
          have hmax:=cd (aa.1 hv).1
          have hm0:=cd (aa.1 (aa.1 hv).2).1
          have hmF:mF.den ρ=m.den ρ:=by
           have:=(aa.1 (aa.1 (aa.1 hv).2).2).1
           simpa [F.holds,BE.den,bv] using this
          simp only[bU,IE.den]at hmax hm0
          obtain⟨b,k,off,fF,hl,hown,hfm,hinj,hfo,hids,hkf⟩:=WT HH hfam hmF
          obtain⟨N,hN⟩:∃N,(m.den ρ).toNat=N:=⟨_,rfl⟩
          rw[hN]at hl hfm hinj hfo hkf
          have hXr:=HH.rows X true _ hX
          simp only[am.holds]at hXr
          have hXo:¬C.keep (ρ.k X):=HH.own X _ hX _ rfl
          have hXa:∀j p t,j≠X→ai (.h j) H=some (.row p t)→¬t.owns ρ j (ρ.k X):=fun j p t hj ht=>HH.apart (fun e=>hj e.symm) hX ht (.inl rfl) rfl
          have hXi:¬MU ids X:=by
           rintro⟨L,F,e,hj⟩
           obtain⟨⟨q,a1⟩,a2⟩:=hids L F e
           rcases hj with rfl|rfl
           ·rw[hX]at a1;cases a1
           ·rw[hX]at a2;cases a2
          have hXf:∀i,i<N→fF i≠ρ.k X:=fun i hi e=>(hfo i hi).2 X true _ hXi hX (by simp only[am.owns];exact e)
          have hs:Src P info.size tx (x:=(SV.sl (.at id 0) (.lit (.ofNat 1)) cap).den ρ) 1 [.pointer (some ⟨ρ.k X,0,none⟩)] w:=by
           have hh:=HH.rows id _ _ hid
           simp only[am.holds,List.map_cons,List.map_nil,SV.den,PT.addr]at hh
           refine Src.ofSlice w htx _ 1 _ _ (by simp[hz1]) (fun j u hu=>?_) (fun u hu=>?_)
           ·simp only[PT.addr,ba,Nat.zero_add]
            rw[de hh,List.getElem?_toArray];exact hu
           ·simp only[List.mem_singleton]at hu;subst hu;rfl
          rw[←hz1]at hl
          obtain⟨b',k',off',x',w',hrun,hl',hbk,hst⟩:=nA (P:=P) t tx ty ht hi hz (Nat.eq_of_beq_eq_true g3) g1 (fun r j hr=>by unfold a6b;rw[hz1];split<;>simp<;>omega) hl hs (by omega) hby
          let ρ1:=WV ρ (n+1) (fun i=>if i<N then fF i else ρ.k X)
          let ρ2:=aW ρ1 n b' k' off' x' (fun _ _=>0)
          have hag1:b7 (n+1) (n+1+1) ρ ρ1:=WW _ _ _
          have hag2:b7 n (n+1) ρ1 ρ2:=et _ _ _ _ _ _ _
          have hag:b7 n (n+2) ρ ρ2:=(hag1.mono (Nat.le_succ n) (Nat.le_refl _)).trans (hag2.mono (Nat.le_refl _) (Nat.le_succ _)) (Nat.le_refl _) (Nat.le_refl _)
          have hL:af.avo n (n+2) H=true:=hL
          have f1:∀i,ρ1.f (n+1) i=if i<N then fF i else ρ.k X:=fun i=>by simp[ρ1,WV]
          have f2:∀i,ρ2.f (n+1) i=if i<N then fF i else ρ.k X:=fun i=>by simp[ρ2,ρ1,WV,aW]
          have hm1:m.den ρ1=m.den ρ:=IE.ag hag1 m (IE.ad (Nat.le_succ n) (Nat.le_refl _) m g5)
          have hm2:m.den ρ2=m.den ρ:=IE.ag hag m g5
          have hGa:af.avo n (n+2) ((.h X,.gone)::(na ids++H))=true:=by
           have hX1:=(af.al hL hX).1
           have hi2:af.avo n (n+2) (na ids++H)=true:=by
            refine af.cH ?_ hL
            cases ids with
            |none=>rfl
            |some p=>
             obtain⟨L,F⟩:=p
             obtain⟨⟨q,a1⟩,a2⟩:=hids L F rfl
             simp only[na,af.avo,(af.al hL a1).1,(af.al hL a2).1,aY.avo,Bool.and_self]
           simp only[af.avo,hX1,aY.avo,hi2,Bool.and_self]
          have hsub:HD C ρ ((.h X,.gone)::(na ids++H)) w:=HH.sub fun j o q hj=>(gc hj).2.2
          have h1:HD C ρ1 ((.h (n+1),.row true (.fam ef ks (cK m (.lit 1)) (dF m 0 lX leF)))::((.h X,.gone)::(na ids++H))) w:=by
           refine hsub.lay (K:=fun c=>(∃i,i<N∧c=fF i)∨c=ρ.k X) (fun c hc=>?_) ⟨rfl,rfl,rfl,Nat.le_refl _,fun _ _ _=>rfl⟩ (af.ad (Nat.le_succ n) (Nat.le_refl _) _ hGa) hag1 ?_ (fun c hc=>?_)
           ·rcases hc with⟨i,hi,rfl⟩|rfl
            ·exact⟨(hfo i hi).1,fun j p q hq=>(hfo i hi).2 j p q (gc hq).2.1 (gc hq).2.2⟩
            ·exact⟨hXo,fun j p q hq=>hXa j p q (gc hq).1 (gc hq).2.2⟩
           ·simp only[am.holds,bU,IE.den,hm1]
            have hlen:=C7 hks
            refine⟨fun i hi=>?_,fun i j hi hj he=>?_⟩
            ·rw[f1]
             by_cases hiN:i<N
             ·rw[if_pos hiN]
              obtain⟨cs,c1,c2,c3⟩:=hfm i hiN
              refine⟨cs,c1,c2,fun j kk hk=>?_⟩
              rw[c3 j kk hk,WR hks j kk hk ρ ρ1 i i]
              rw[fi (.inl (by rw[hm1,hN];omega)),LE.ag hag1 leF (LE.ad (Nat.le_succ n) (Nat.le_refl _) leF g6)]
             ·have hiN':i=N:=by omega
              subst hiN'
              rw[if_neg hiN]
              refine⟨_,hXr,by simp[hlen],fun j kk hk=>?_⟩
              have hjl:j<lX.length:=by rw[←hlen];exact(List.getElem?_eq_some_iff.1 hk).1
              have hlj:lX[j]? =some lX[j]:=List.getElem?_eq_getElem hjl
              rw[List.getElem?_toArray,List.getElem?_map,hlj]
              simp only[Option.map_some]
              have hsd:(lX[j]).den ρ=(lX[j]).den ρ1:=(SV.ag hag1 _ (SV.ad (Nat.le_succ n) (Nat.le_refl _) _ (SV.MV g7 hlj))).symm
              rw[hsd,nD (ρ:=ρ1) (i:=m) (j:=0) (le:=leF) hks j _ kk hlj hk ρ1 i,Nat.zero_add,hm1,hN]
            ·rw[f1,f1]at he
             by_cases hiN:i<N<;>by_cases hjN:j<N
             ·rw[if_pos hiN,if_pos hjN]at he;exact hinj i j hiN hjN he
             ·rw[if_pos hiN,if_neg hjN]at he;exact absurd he (hXf i hiN)
             ·rw[if_neg hiN,if_pos hjN]at he;exact absurd he.symm (hXf j hjN)
             ·omega
           ·simp only[am.owns,bU,IE.den,hm1]at hc
            obtain⟨i,hi,rfl⟩:=hc
            rw[f1]
            by_cases hiN:i<N
            ·rw[if_pos hiN];exact .inl (.inl ⟨i,hiN,rfl⟩)
            ·rw[if_neg hiN];exact .inl (.inr rfl)
          have hG2:af.avo n (n+1) ((.h (n+1),.row true (.fam ef ks (cK m (.lit 1)) (dF m 0 lX leF)))::((.h X,.gone)::(na ids++H)))=true:=by
           exact af.cH (l:=[_]) g8 (af.ad (Nat.le_refl _) (Nat.le_succ _) _ hGa)
          refine⟨ρ2,w',?_,hag,aj _,?_⟩
          ·rw[hrun];simp[SV.den,ρ2,aW]
          ·have h2:HD C ρ2 ((.h n,.row true (.lst e [.ptr (n+1)] (cK m (.lit 1)) (.var 0)))::((.h (n+1),.row true (.fam ef ks (cK m (.lit 1)) (dF m 0 lX leF)))::((.h X,.gone)::(na ids++H)))) w':=by
            refine h1.lay (K:=fun c=>b=true∧c=k) (fun c hc=>?_) hst hG2 hag2 ?_ (fun c hc=>?_)
            ·obtain⟨hb,rfl⟩:=hc
             refine⟨(hown hb).1,fun j p q hq=>?_⟩
             rw[ak]at hq
             by_cases hj:aO.h (n+1)=aO.h j
             ·rw[if_pos hj]at hq
              obtain⟨rfl,rfl⟩:=aY.row.inj (Option.some.inj hq)
              obtain rfl:=aO.h.inj hj
              intro ho
              simp only[am.owns,bU,IE.den,hm1]at ho
              obtain⟨i,hi,he⟩:=ho
              rw[f1]at he
              by_cases hiN:i<N
              ·rw[if_pos hiN]at he;exact hkf hb i hiN he
              ·rw[if_neg hiN]at he;exact(hown hb).2 X true _ hXi hX (by simp only[am.owns];exact he)
             ·rw[if_neg hj]at hq
              have hq':=gc hq
              intro ho
              have hav:=af.al hL hq'.2.2
              exact(hown hb).2 j p q hq'.2.1 hq'.2.2 ((am.ce (hag1.mono (Nat.le_succ n) (Nat.le_refl _)) hav.1 hav.2 _).1 ho)
            ·rw[bz]
             have s1:ρ2.b n=b':=by simp[ρ2,aW]
             have s2:ρ2.k n=k':=by simp[ρ2,aW]
             have s3:ρ2.f n 0=off':=by simp[ρ2,aW]
             have s4:ρ2.x n=x':=by simp[ρ2,aW]
             rw[s1,s2,s3,s4]
             have hlen':(IE.den ρ2 (cK m (.lit 1))).toNat=N+1:=by simp only[bU,IE.den,hm2];omega
             rw[hlen']
             have hl'':=hl'
             rw[hz1]at hl''
             refine hl''.mono fun r hr j v hvv=>?_
             unfold n8 at hvv
             cases j with
             |succ j=>simp at hvv
             |zero=>
              simp only[List.getElem?_cons_zero,Option.map_some,Option.some.injEq]at hvv
              subst hvv
              simp only[CK.v,f2]
              by_cases hrN:r<N
              ·rw[if_pos hrN,if_pos hrN];simp[a6b]
              ·have:r=N:=by omega
               subst this
               simp
            ·simp only[am.owns]at hc
             have s1:ρ2.b n=b':=by simp[ρ2,aW]
             have s2:ρ2.k n=k':=by simp[ρ2,aW]
             rw[s1,s2]at hc
             obtain⟨hb',rfl⟩:=hc
             rcases hbk hb' with⟨hb,rfl⟩|h
             ·exact .inl ⟨hb,rfl⟩
             ·exact .inr h
           exact h2
        ·cases h
       ·cases h
      ·cases h
     ·cases h
    ·cases h
   ·cases h
  ·cases h
 ·cases h
def wS:List IntKind→List IntKind→Bool
 |[],[]=>true
 |a::l,b::m=>gw a b&&wS l m
 |_,_=>false
theorem rU:∀{l m:List IntKind},wS l m=true→l=m
 |[],[],_=>rfl
 |[],_::_,h=>by cases h
 |_::_,[],h=>by cases h
 |a::l,b::m,h=>by
  simp only[wS,Bool.and_eq_true]at h
  rw[bY h.1,rU h.2]
def oc:List CK→Option (List IntKind)
 |[]=>some []
 |.int k::r=>match oc r with
  |some l=>some (k::l)
  |none=>none
 |.byte::r=>match oc r with
  |some l=>some (.u8::l)
  |none=>none
 |_=>none
theorem C8:∀{l:List CK} {ks:List IntKind},oc l=some ks→l.length=ks.length∧∀(j:Nat) (k:IntKind),ks[j]? =some k→∃c,l[j]? =some c∧∀(ρ:ap) (i:Nat) (n:Int),∃v,c.v ρ i n=.int k v
 |[],ks,h=>by obtain rfl:=Option.some.inj h;exact⟨rfl,fun j k hk=>by simp at hk⟩
 |a::l,ks,h=>by
  have main:∀(k0:IntKind) (l':List IntKind),oc l=some l'→(∀(ρ:ap) (i:Nat) (n:Int),∃v,a.v ρ i n=.int k0 v)→(a::l).length=(k0::l').length∧∀(j:Nat) (k:IntKind),(k0::l')[j]? =some k→∃c,(a::l)[j]? =some c∧∀(ρ:ap) (i:Nat) (n:Int),∃v,c.v ρ i n=.int k v:=by
   intro k0 l' hl ha
   obtain⟨h1,h2⟩:=C8 hl
   refine⟨by simp[h1],fun j k hk=>?_⟩
   cases j with
   |zero=>obtain rfl:=Option.some.inj hk;exact⟨a,rfl,ha⟩
   |succ j=>exact h2 j k (by simpa using hk)
  cases a with
  |int k=>
   simp only[oc]at h
   split at h
   ·rename_i l' hl
    obtain rfl:=Option.some.inj h
    exact main k l' hl fun ρ i n=>⟨n,rfl⟩
   ·cases h
  |byte=>
   simp only[oc]at h
   split at h
   ·rename_i l' hl
    obtain rfl:=Option.some.inj h
    exact main .u8 l' hl fun ρ i n=>⟨_,rfl⟩
   ·cases h
  |_=>simp[oc]at h
def WX(H:af)(e eY:TypeId)(ks:List IntKind)(s:SV):Option (Option (Nat×Nat)×IE×IE×LE):=
 match s with
 |.nils=>some (none,.lit 0,.lit 0,.var 0)
 |.lst L=>match ai (.h L) H with
  |some (.row true (.lst e' [.val S] m _))=>match ai (.h S) H with
   |some (.row false (.sls eY' ks' mS leS))=>bif Nat.beq e e'&&(Nat.beq eY eY'&&wS ks ks')then some (some (L,S),m,mS,leS)else none
   |_=>none
  |_=>none
 |_=>none
def a6c(yF:Nat→Value):Nat→Nat→Option Value:=fun r j=>if j=0 then some (yF r)else none
theorem WY{C:bp}{ρ:ap}{H:af}{w:World}(HH:HD C ρ H w){e eY:TypeId}{ks:List IntKind}{s:SV}{ids:Option (Nat×Nat)}{m mS:IE}{leS:LE}(h:WX H e eY ks s=some (ids,m,mS,leS))(hm:mS.den ρ=m.den ρ):
 ∃(b:Bool) (k off:Nat) (yF:Nat→Value),fS w e 1 (m.den ρ).toNat (a6c yF) b k off (s.den ρ)∧
  (b=true→¬C.keep k∧∀j p t,(∀L S,ids=some (L,S)→j≠L)→ai (.h j) H=some (.row p t)→¬t.owns ρ j k)∧
  (∀i,i<(m.den ρ).toNat→nw w eY ks (leS.den ρ i 0) (yF i)∧∀b,sx eY (yF i) b→(C.sh b∨¬C.keep b)∧∀j t,ai (.h j) H=some (.row true t)→¬t.owns ρ j b)∧
  (∀L S,ids=some (L,S)→∃t,ai (.h L) H=some (.row true t))∧
  (b=true→∀i,i<(m.den ρ).toNat→¬sx eY (yF i) k):=by
 unfold WX at h
 split at h
 ·simp only[Option.some.injEq,Prod.mk.injEq]at h
  obtain⟨rfl,rfl,rfl,rfl⟩:=h
  exact⟨false,0,0,fun _=> .slice none 0 0,⟨fun _=>⟨rfl,.inl rfl⟩,fun h=>(by cases h)⟩,fun h=>(by cases h),fun i hi=>by simp[IE.den]at hi,fun L F h=>(by cases h),fun h=>(by cases h)⟩
 ·rename_i L
  split at h
  ·rename_i e' S m' q hL
   split at h
   ·rename_i eY' ks' mS' leS' hS
    cases hb:(Nat.beq e e'&&(Nat.beq eY eY'&&wS ks ks'))
    ·rw[hb]at h;cases h
    ·rw[hb]at h
     simp only[cond_true,Option.some.injEq,Prod.mk.injEq]at h
     obtain⟨rfl,rfl,rfl,rfl⟩:=h
     simp only[Bool.and_eq_true]at hb
     have:=Nat.eq_of_beq_eq_true hb.1;subst this
     have:=Nat.eq_of_beq_eq_true hb.2.1;subst this
     have:=rU hb.2.2;subst this
     have hl:=(bz ρ L w e [.val S] m' q).1 (HH.rows L true _ hL)
     have hs:=HH.rows S false _ hS
     simp only[am.holds]at hs
     rw[hm]at hs
     have sho:∀i,i<(m'.den ρ).toNat→∀b,sx eY (ρ.y S i) b→(am.sls eY ks mS' leS').owns ρ S b:=fun i hi b hb=>⟨i,by rw[hm];exact hi,hb⟩
     refine⟨ρ.b L,ρ.k L,ρ.f L 0,ρ.y S,?_,fun hb'=>⟨HH.own L _ hL _ ⟨hb',rfl⟩,fun j p t hj ht=>HH.apart (fun e=>hj L S rfl e.symm) hL ht (.inl rfl) ⟨hb',rfl⟩⟩,fun i hi=>⟨hs i hi,fun b hb=>⟨HH.ro S _ hS b (sho i hi b hb),fun j t hj=>HH.dis S j _ _ hS hj b (sho i hi b hb)⟩⟩,?_,?_⟩
     ·refine fS.mono hl fun i hi j v hv=>?_
      unfold a6c at hv
      split at hv
      ·rename_i hj;subst hj
       obtain rfl:=Option.some.inj hv
       rfl
      ·cases hv
     ·intro L' F' h
      simp only[Option.some.injEq,Prod.mk.injEq]at h
      obtain⟨rfl,rfl⟩:=h
      exact⟨_,hL⟩
     ·intro hb' i hi hs'
      exact HH.dis S L _ _ hS hL _ (sho i hi _ hs') ⟨hb',rfl⟩
   ·cases h
  ·cases h
 ·cases h
def nc(ids:Option (Nat×Nat)):af:=
 match ids with
 |some (L,_)=>[(.h L,.gone)]
 |none=>[]
theorem nF{ids:Option (Nat×Nat)}{H:af}{j:Nat}{o:Bool}{r:am}(h:ai (.h j) (nc ids++H)=some (.row o r)):(∀L S,ids=some (L,S)→j≠L)∧ai (.h j) H=some (.row o r):=by
 cases ids with
 |none=>exact⟨fun L S e=>(by cases e),h⟩
 |some p=>
  obtain⟨L,S⟩:=p
  simp only[nc,List.cons_append,List.nil_append]at h
  rw[ak]at h
  by_cases hL:aO.h L=aO.h j
  ·rw[if_pos hL]at h;cases h
  ·rw[if_neg hL]at h
   refine⟨fun L' S' e hj=>?_,h⟩
   simp only[Option.some.injEq,Prod.mk.injEq]at e
   obtain⟨rfl,rfl⟩:=e
   exact hL (by rw[hj])
def kY(ρ:ap)(n:Nat)(g:Nat→Value):ap:={ρ with y:=fun v=>if v=n then g else ρ.y v}
theorem qh(ρ:ap)(n:Nat)(g:Nat→Value):b7 n (n+1) ρ (kY ρ n g):=by
 constructor<;>intro v hv<;>first|rfl|(simp only[kY];rw[if_neg (by omega)])
theorem a6d{ρ:ap}{w:World}{Y:Nat}{eY:TypeId}{ks:List IntKind}{cks:List CK}{m:IE}{le:LE}(hks:oc cks=some ks)(h:(am.lst eY cks m le).holds ρ Y w)(he:Nat.beq eY 0=false)(hm:(m.den ρ).toNat≤1000000):
 nw w eY ks ((m.den ρ).toNat:Int) (ρ.x Y)∧∀b,sx eY (ρ.x Y) b→(am.lst eY cks m le).owns ρ Y b:=by
 have he0:¬eY=0:=fun h=>by subst h;cases he
 simp only[am.holds]at h
 cases hb:ρ.b Y with
 |false=>
  obtain⟨h1,h2⟩:=h.1 hb
  have h2:=h2.resolve_right fun h=>he0 h.1
  refine⟨.inl ⟨none,0,h2,.inr ⟨rfl,rfl⟩,by rw[h1];rfl⟩,fun b hs=>?_⟩
  obtain⟨off,m',c,_,h4⟩:=hs
  rw[h2]at h4;cases h4
 |true=>
  obtain⟨cs,c,hx,hlay,hsz,hc,hget⟩:=h.2 hb
  obtain⟨hlen,hkk⟩:=C8 hks
  rw[hlen]at hsz hget
  refine⟨.inr ⟨ρ.k Y,ρ.f Y 0,(m.den ρ).toNat,c,cs,eY,(0,0),hx,.inr he0,hlay.get he,hc,(by unfold slB;rw[he];exact hm),fun i hi j k hk=>?_,.inr ⟨rfl,rfl,hsz.resolve_left he0⟩,rfl⟩,fun b hs=>?_⟩
  ·obtain⟨c',hc',hv⟩:=hkk j k hk
   obtain⟨v,hv⟩:=hv ρ i (le.den ρ i j)
   exact⟨v,by rw[←hv];exact hget i hi j c' hc'⟩
  ·obtain⟨off,m',c',_,h4⟩:=hs
   rw[hx]at h4
   injection h4 with h4 _ _
   obtain⟨rfl,-⟩:ρ.k Y=b∧ρ.f Y 0=off:=by simpa using h4
   exact⟨hb,rfl⟩
def abf(ids:Option (Nat×Nat))(Y:Nat):Bool:=match ids with|some (L,_)=>!(Nat.beq L Y)|none=>true
def WZ(P:Program)(H:af)(n:Nat)(t tx:TypeId)(s x:SV):Option OR:=
 match P.underlying t,P.underlying tx with
 |some (.slice e),some (.slice _)=>
  match P.info? e with
  |some info=>
   match info.zero with
   |some zv=>
    match x with
    |.sl (.at id 0) (.lit (.ofNat 1)) _=>match ai (.h id) H with
     |some (.row _ (.cells _ [.lst Y]))=>match ai (.h Y) H with
      |some (.row o (.lst eY cks mY leY))=>match oc cks with
       |some ks=>match WX H e eY ks s with
        |some (ids,m,mS,leS)=>
         bif !(Nat.beq e 0)&&(!(Nat.beq eY 0)&&(Nat.beq info.size 1&&(Nat.beq zv.cells.size info.size&&(Nat.ble info.bytes 16384&&(m.avo n (n+2)&&(leS.avo n (n+2)&&(abf ids Y&&af.avo n (n+1) [(.h (n+1),.row false (.sls eY ks (cK m (.lit 1)) (.upd leS m 0 (bf mY))))])))))))then
          some ⟨[.be (.cmp .leq (cK m (.lit 1)) (.lit 4294967296)),.be (.cmp .leq (.lit 0) m),.be (.cmp .eql mS m),.be (.cmp .leq mY (.lit 1000000))],[],.lst n,
           (.h n,.row true (.lst e [.val (n+1)] (cK m (.lit 1)) (.var 0)))::(.h (n+1),.row false (.sls eY ks (cK m (.lit 1)) (.upd leS m 0 (bf mY))))::(.h Y,.row false (.lst eY cks mY leY))::nc ids,n+2⟩
         else none
        |none=>none
       |none=>none
      |_=>none
     |_=>none
    |_=>none
   |none=>none
  |none=>none
 |_,_=>none
theorem OT{P:Program}{C:bp}{ρ:ap}{H:af}{w:World}(HH:HD C ρ H w){n:Nat}{t tx ty:TypeId}{s x:SV}{r:OR}(h:WZ P H n t tx s x=some r)(hL:af.avo n r.nxt H=true)(hv:ar ρ r.vcs):
 ∃ρ' w',(Builtin.append_ #[t,tx] ty #[s.den ρ,x.den ρ]).run P w=.ok (r.val.den ρ') w'∧b7 n r.nxt ρ ρ'∧ar ρ' r.facts∧HD C ρ' (r.log++H) w':=by
 unfold WZ at h
 split at h
 ·rename_i e ex ht htx
  split at h
  ·rename_i info hi
   split at h
   ·rename_i zv hz
    split at h
    ·rename_i id cap
     split at h
     ·rename_i o1 e1 Y hid
      split at h
      ·rename_i oY eY cks mY leY hY
       split at h
       ·rename_i ks hks
        split at h
        ·rename_i ids m mS leS hsls
         generalize hg:(!(Nat.beq e 0)&&(!(Nat.beq eY 0)&&(Nat.beq info.size 1&&(Nat.beq zv.cells.size info.size&&(Nat.ble info.bytes 16384&&(m.avo n (n+2)&&(leS.avo n (n+2)&&(abf ids Y&&af.avo n (n+1) [(.h (n+1),.row false (.sls eY ks (cK m (.lit 1)) (.upd leS m 0 (bf mY))))]))))))))=g at h
         cases g with
         |false=>cases h
         |true=>
          obtain rfl:=Option.some.inj h
          simp only[Bool.and_eq_true,Bool.not_eq_true']at hg
          obtain⟨g1,g2,g3,g4,g5,g6,g9,g7,g8⟩:=hg
          have hz1:=Nat.eq_of_beq_eq_true g3
          have hby:=Nat.le_of_ble_eq_true g5
          have hmax:=cd (aa.1 hv).1
          have hm0:=cd (aa.1 (aa.1 hv).2).1
          have hmS:mS.den ρ=m.den ρ:=by
           have:=(aa.1 (aa.1 (aa.1 hv).2).2).1
           simpa [F.holds,BE.den,bv] using this
          have hmY:=cd (aa.1 (aa.1 (aa.1 (aa.1 hv).2).2).2).1
          simp only[bU,IE.den]at hmax hm0 hmY
          obtain⟨b,k,off,yF,hl,hown,hyF,hids,hkf⟩:=WY HH hsls hmS
          obtain⟨N,hN⟩:∃N,(m.den ρ).toNat=N:=⟨_,rfl⟩
          rw[hN]at hl hyF hkf
          have hLY:∀L S,ids=some (L,S)→L≠Y:=by
           intro L S he hLe
           subst he hLe
           simp only[abf,Bool.not_eq_true']at g7
           exact absurd (Nat.beq_refl L) (by rw[g7];decide)
          have H1:HD C ρ ((.h Y,.row false (.lst eY cks mY leY))::H) w:=by
           refine HH.step rfl rfl rfl (Nat.le_refl _) (fun _ _=>rfl) (fun _ _ _ _ _ _ _=>rfl) (HH.rows Y oY _ hY) (fun h=>by cases h) (fun _ b hb=>?_) (fun i p q hi2 hq hor b hb=>HH.apart (fun e=>hi2 e.symm) hY hq (.inr (hor.resolve_left (by decide))) hb)
           cases oY
           ·exact HH.ro Y _ hY b hb
           ·exact .inr (HH.own Y _ hY b hb)
          obtain⟨hYok,hYat⟩:=a6d hks (HH.rows Y oY _ hY) g2 (show(mY.den ρ).toNat≤1000000 by omega)
          have H2:HD C ρ ((.h Y,.row false (.lst eY cks mY leY))::(nc ids++H)) w:=by
           refine H1.sub fun j o q hj=>?_
           rw[ak]at hj⊢
           by_cases hjY:aO.h Y=aO.h j
           ·rw[if_pos hjY]at hj⊢;exact hj
           ·rw[if_neg hjY]at hj⊢;exact(nF hj).2
          have hs:Src P info.size tx (x:=(SV.sl (.at id 0) (.lit (.ofNat 1)) cap).den ρ) 1 [ρ.x Y] w:=by
           have hh:=HH.rows id _ _ hid
           simp only[am.holds,List.map_cons,List.map_nil,SV.den]at hh
           refine Src.ofSlice w htx _ 1 _ _ (by simp[hz1]) (fun j u hu=>?_) (fun u hu=>?_)
           ·simp only[PT.addr,ba,Nat.zero_add]
            rw[de hh,List.getElem?_toArray];exact hu
           ·simp only[List.mem_singleton]at hu;subst hu
            rcases hYok with⟨a,c,h,_,_⟩|⟨b,off,m,c,cs,f,z,h,_⟩<;>(rw[h];rfl)
          rw[←hz1]at hl
          obtain⟨b',k',off',x',w',hrun,hl',hbk,hst⟩:=nA (P:=P) t tx ty ht hi hz (Nat.eq_of_beq_eq_true g4) g1 (fun r j hr=>by unfold a6c;rw[hz1];split<;>simp<;>omega) hl hs (by omega) hby
          let ρ1:=kY ρ (n+1) (fun i=>if i<N then yF i else ρ.x Y)
          let ρ2:=aW ρ1 n b' k' off' x' (fun _ _=>0)
          have hag1:b7 (n+1) (n+1+1) ρ ρ1:=qh _ _ _
          have hag2:b7 n (n+1) ρ1 ρ2:=et _ _ _ _ _ _ _
          have hag:b7 n (n+2) ρ ρ2:=(hag1.mono (Nat.le_succ n) (Nat.le_refl _)).trans (hag2.mono (Nat.le_refl _) (Nat.le_succ _)) (Nat.le_refl _) (Nat.le_refl _)
          have hL:af.avo n (n+2) H=true:=hL
          have f1:∀i,ρ1.y (n+1) i=if i<N then yF i else ρ.x Y:=fun i=>by simp[ρ1,kY]
          have f2:∀i,ρ2.y (n+1) i=if i<N then yF i else ρ.x Y:=fun i=>by simp[ρ2,ρ1,kY,aW]
          have hm1:m.den ρ1=m.den ρ:=IE.ag hag1 m (IE.ad (Nat.le_succ n) (Nat.le_refl _) m g6)
          have hm2:m.den ρ2=m.den ρ:=IE.ag hag m g6
          have avY:=af.al hL hY
          have hGa:af.avo n (n+2) ((.h Y,.row false (.lst eY cks mY leY))::(nc ids++H))=true:=by
           have hi2:af.avo n (n+2) (nc ids++H)=true:=by
            refine af.cH ?_ hL
            cases ids with
            |none=>rfl
            |some p=>
             obtain⟨L,S⟩:=p
             obtain⟨t',a1⟩:=hids L S rfl
             simp only[nc,af.avo,(af.al hL a1).1,aY.avo,Bool.and_self]
           have a2:=avY.2
           simp only[aY.avo]at a2
           simp only[af.avo,avY.1,aY.avo,a2,hi2,Bool.and_self]
          have hGa1:=af.ad (Nat.le_succ n) (Nat.le_refl _) _ hGa
          have H2':=H2.agr hag1 hGa1
          have hg8:=g8
          simp only[af.avo,aY.avo,am.avo,LE.avo,Bool.and_eq_true]at hg8
          have hleS:leS.avo (n+1) (n+1+1)=true:=LE.ad (Nat.le_succ n) (Nat.le_refl _) leS g9
          have avY2:=avY.2
          simp only[aY.avo,am.avo,Bool.and_eq_true]at avY2
          have emY:mY.den ρ1=mY.den ρ:=IE.ag hag1 mY (IE.ad (Nat.le_succ n) (Nat.le_refl _) mY avY2.1)
          have hat:∀c,(am.sls eY ks (cK m (.lit 1)) (.upd leS m 0 (bf mY))).owns ρ1 (n+1) c→(∃i,i<N∧sx eY (yF i) c)∨(am.lst eY cks mY leY).owns ρ Y c:=by
           intro c hc
           simp only[am.owns,bU,IE.den,hm1]at hc
           obtain⟨i,hi,hc⟩:=hc
           rw[f1]at hc
           by_cases hiN:i<N
           ·rw[if_pos hiN]at hc;exact .inl ⟨i,hiN,hc⟩
           ·rw[if_neg hiN]at hc;exact .inr (hYat c hc)
          have hown1:∀j t c,ai (.h j) H=some (.row true t)→j≠Y→(am.sls eY ks (cK m (.lit 1)) (.upd leS m 0 (bf mY))).owns ρ1 (n+1) c→¬t.owns ρ j c:=by
           intro j t c hj hjY hc
           rcases hat c hc with⟨i,hi,hc⟩|hc
           ·exact((hyF i hi).2 c hc).2 j t hj
           ·exact HH.apart (fun e=>hjY e.symm) hY hj (.inr rfl) hc
          have h1:HD C ρ1 ((.h (n+1),.row false (.sls eY ks (cK m (.lit 1)) (.upd leS m 0 (bf mY))))::((.h Y,.row false (.lst eY cks mY leY))::(nc ids++H))) w:=by
           refine H2'.step rfl rfl rfl (Nat.le_refl _) (fun _ _=>rfl) (fun _ _ _ _ _ _ _=>rfl) ?_ (fun h=>by cases h) (fun _ c hc=>?_) (fun j p q hj hlj hor c hc ht=>?_)
           ·simp only[am.holds,bU,IE.den,hm1]
            intro i hi
            have eS:∀i,leS.den ρ1 i 0=leS.den ρ i 0:=fun i=>by rw[LE.ag hag1 leS hleS]
            rw[f1]
            simp only[LE.den,ah,aP,hm1,eS]
            by_cases hiN:i<N
            ·rw[if_pos hiN,if_neg (by omega)];exact(hyF i hiN).1
            ·rw[if_neg hiN,if_pos ⟨by omega,trivial⟩,emY];exact hYok
           ·rcases hat c hc with⟨i,hi,hc⟩|hc
            ·exact((hyF i hi).2 c hc).1
            ·exact H1.ro Y _ (bT _ _ _) c hc
           ·have hp:p=true:=hor.resolve_left (by decide)
            subst hp
            rw[ak]at hlj
            by_cases hjY:aO.h Y=aO.h j
            ·rw[if_pos hjY]at hlj;cases hlj
            ·rw[if_neg hjY]at hlj
             have hq:=(nF hlj).2
             have hav:=af.al hL hq
             exact hown1 j q c hq (fun e=>hjY (by rw[e])) hc ((am.ce (hag1.mono (Nat.le_succ n) (Nat.le_refl _)) hav.1 hav.2 _).1 ht)
          have hG2:af.avo n (n+1) ((.h (n+1),.row false (.sls eY ks (cK m (.lit 1)) (.upd leS m 0 (bf mY))))::((.h Y,.row false (.lst eY cks mY leY))::(nc ids++H)))=true:=by
           exact af.cH (l:=[_]) g8 (af.ad (Nat.le_refl _) (Nat.le_succ _) _ hGa)
          refine⟨ρ2,w',?_,hag,aj _,?_⟩
          ·rw[hrun];simp[SV.den,ρ2,aW]
          ·have h2:HD C ρ2 ((.h n,.row true (.lst e [.val (n+1)] (cK m (.lit 1)) (.var 0)))::((.h (n+1),.row false (.sls eY ks (cK m (.lit 1)) (.upd leS m 0 (bf mY))))::((.h Y,.row false (.lst eY cks mY leY))::(nc ids++H)))) w':=by
            refine h1.lay (K:=fun c=>b=true∧c=k) (fun c hc=>?_) hst hG2 hag2 ?_ (fun c hc=>?_)
            ·obtain⟨hb,rfl⟩:=hc
             have hYk:¬(am.lst eY cks mY leY).owns ρ Y c:=(hown hb).2 Y oY _ (fun L S he e=>hLY L S he e.symm) hY
             refine⟨(hown hb).1,fun j p q hq=>?_⟩
             rw[ak]at hq
             by_cases hj:aO.h (n+1)=aO.h j
             ·rw[if_pos hj]at hq
              obtain⟨rfl,rfl⟩:=aY.row.inj (Option.some.inj hq)
              obtain rfl:=aO.h.inj hj
              intro ho
              rcases hat c ho with⟨i,hi,hc⟩|hc
              ·exact hkf hb i hi hc
              ·exact hYk hc
             ·rw[if_neg hj,ak]at hq
              by_cases hjY:aO.h Y=aO.h j
              ·rw[if_pos hjY]at hq
               obtain⟨rfl,rfl⟩:=aY.row.inj (Option.some.inj hq)
               obtain rfl:=aO.h.inj hjY
               intro ho
               have a2:=avY.2
               simp only[aY.avo]at a2
               exact hYk ((am.ce (hag1.mono (Nat.le_succ n) (Nat.le_refl _)) avY.1 a2 _).1 ho)
              ·rw[if_neg hjY]at hq
               have hq':=nF hq
               intro ho
               have hav:=af.al hL hq'.2
               exact(hown hb).2 j p q hq'.1 hq'.2 ((am.ce (hag1.mono (Nat.le_succ n) (Nat.le_refl _)) hav.1 hav.2 _).1 ho)
            ·rw[bz]
             have s1:ρ2.b n=b':=by simp[ρ2,aW]
             have s2:ρ2.k n=k':=by simp[ρ2,aW]
             have s3:ρ2.f n 0=off':=by simp[ρ2,aW]
             have s4:ρ2.x n=x':=by simp[ρ2,aW]
             rw[s1,s2,s3,s4]
             have hlen':(IE.den ρ2 (cK m (.lit 1))).toNat=N+1:=by simp only[bU,IE.den,hm2];omega
             rw[hlen']
             have hl'':=hl'
             rw[hz1]at hl''
             refine hl''.mono fun r hr j v hvv=>?_
             unfold n8 at hvv
             cases j with
             |succ j=>simp at hvv
             |zero=>
              simp only[List.getElem?_cons_zero,Option.map_some,Option.some.injEq]at hvv
              subst hvv
              simp only[CK.v,f2]
              by_cases hrN:r<N
              ·rw[if_pos hrN,if_pos hrN];simp[a6c]
              ·have:r=N:=by omega
               subst this
               simp
            ·simp only[am.owns]at hc
             have s1:ρ2.b n=b':=by simp[ρ2,aW]
             have s2:ρ2.k n=k':=by simp[ρ2,aW]
             rw[s1,s2]at hc
             obtain⟨hb',rfl⟩:=hc
             rcases hbk hb' with⟨hb,rfl⟩|h
             ·exact .inl ⟨hb,rfl⟩
             ·exact .inr h
           exact h2
        ·cases h
       ·cases h
      ·cases h
     ·cases h
    ·cases h
   ·cases h
  ·cases h
 ·cases h
def uQ(g:List F)(b:BE):Bool:=g.any fun f=>match f with|.be x=>x.eq b|_=>false
theorem C9{g:List F}{b:BE}(h:uQ g b=true){ρ:ap}(hg:ar ρ g):b.den ρ=true:=by
 unfold uQ at h
 rw[List.any_eq_true]at h
 obtain⟨f,hf,he⟩:=h
 cases f with
 |be x=>rw[←BE.b8 _ _ he];exact hg _ hf
 |rel=>cases he
 |imp=>cases he
def X0:IE→Bool
 |.lit _=>true
 |_=>false
def X1(P:Program)(R:af)(g:List F)(c:BE)(o:Op):Option (List F×List (BE×SV)×SV):=
 match o with
 |.indexAddr t x y=>match ep R c x,ep R c y with
  |some (.ptr (.at id off)),some (.int k ie)=>
   match P.underlying t with
   |some (.array 2 el)=>
    match P.underlying el with
    |some (.slice _)=>match eZ P el with
     |some z=>
      bif X0 ie then none else
      bif uQ g (.cmp .eql ie (.lit 0))then some ([],[],.ptr (.at id off))
      else bif uQ g (.not (.cmp .eql ie (.lit 0)))then some ([.be (.cmp .leq (.lit 0) ie),.be (.cmp .lss ie (.lit 2))],[],.ptr (.at id (off+z)))
      else some ([.be (.cmp .leq (.lit 0) ie),.be (.cmp .lss ie (.lit 2))],[(.cmp .eql ie (.lit 0),.ptr (.at id off))],.ptr (.at id (off+z)))
     |none=>none
    |_=>none
   |_=>none
  |_,_=>none
 |_=>none
theorem OU{P:Program}{R H:af}{g:List F}{c:BE}{o:Oper}{v:List F}{l:List (BE×SV)}{s:SV}(h:X1 P R g c o.op=some (v,l,s)){C:bp}{nt:Nat}{ρ:ap}{a:Act}{w:World}
 (hg:ar ρ g) (HH:HD C ρ H w) (RR:RD nt ρ R a) (hc:c.den ρ=true) (hv:ar ρ v):(execOp a.eval o).run P w=.ok (.value (fz ρ l s)) w:=by
 unfold X1 at h
 split at h
 ·rename_i t x y ho
  split at h
  ·rename_i id off k ie hx hy
   split at h
   ·rename_i el hu
    split at h
    ·rename_i e2 hu2
     split at h
     ·rename_i z hz
      cases hl:X0 ie
      ·rw[hl]at h
       simp only[cond_false]at h
       have hidx:q8 P H t (.ptr (.at id off)) (.int k ie)=some ([.be (.cmp .leq (.lit 0) ie),.be (.cmp .lss ie (.lit (2:Nat)))],.ptr (.ax id off ie z)):=by
        have hq:(PT.at id off).idx ie z 2=some (.ax id off ie z):=by
         cases ie<;>first|rfl|cases hl
        simp only[q8,hu,hz,hq]
       have main:0≤ie.den ρ→ie.den ρ<2→(execOp a.eval o).run P w=.ok (.value ((SV.ptr (.ax id off ie z)).den ρ)) w:=fun h0 h2=>by
        have hrun:=nz HH hidx (aa.2 ⟨by simp only[F.holds,BE.den,IE.den,bv];exact decide_eq_true h0,aa.2 ⟨by simp only[F.holds,BE.den,IE.den,bv];exact decide_eq_true h2,aj _⟩⟩)
        simp only[execOp,ho,az RR hc hx,az RR hc hy,Sem.run_bind,hrun,Result.andThen_ok,Sem.run_pure]
       have at0:ie.den ρ=0→(SV.ptr (.ax id off ie z)).den ρ=(SV.ptr (.at id off)).den ρ:=fun e=>by simp[SV.den,PT.addr,e]
       have at1:ie.den ρ=1→(SV.ptr (.ax id off ie z)).den ρ=(SV.ptr (.at id (off+z))).den ρ:=fun e=>by simp[SV.den,PT.addr,e]
       cases h1:uQ g (.cmp .eql ie (.lit 0))
       ·rw[h1]at h
        simp only[cond_false]at h
        cases h2:uQ g (.not (.cmp .eql ie (.lit 0)))
        ·rw[h2]at h
         obtain⟨rfl,rfl,rfl⟩:_∧_∧_:=by simpa [Prod.mk.injEq] using h
         have b0:=cd (aa.1 hv).1
         have b1:=cL (aa.1 (aa.1 hv).2).1
         simp only[IE.den]at b0 b1
         rw[main b0 b1]
         by_cases e:ie.den ρ=0
         ·rw[at0 e]
          simp[fz,BE.den,IE.den,bv,e]
         ·rw[at1 (by omega)]
          simp[fz,BE.den,IE.den,bv,e]
        ·rw[h2]at h
         obtain⟨rfl,rfl,rfl⟩:_∧_∧_:=by simpa [Prod.mk.injEq] using h
         have b0:=cd (aa.1 hv).1
         have b1:=cL (aa.1 (aa.1 hv).2).1
         simp only[IE.den]at b0 b1
         have e:ie.den ρ≠0:=by
          have:=C9 h2 hg
          simpa [BE.den,IE.den,bv] using this
         rw[main b0 b1,at1 (by omega)]
         rfl
       ·rw[h1]at h
        obtain⟨rfl,rfl,rfl⟩:_∧_∧_:=by simpa [Prod.mk.injEq] using h
        have e:ie.den ρ=0:=by
         have:=C9 h1 hg
         simpa [BE.den,IE.den,bv] using this
        rw[main (by omega) (by omega),at0 e]
        rfl
      ·rw[hl]at h;cases h
     ·cases h
    ·cases h
   ·cases h
  ·cases h
 ·cases h
def X2(g:Nat):af→Option Nat
 |[]=>none
 |(.h id,.row _ (.glob _ g' _ _))::r=>bif Nat.beq g g' then some id else X2 g r
 |_::r=>X2 g r
def Hj(H:af)(id g:Nat):Bool:=
 match ai (.h id) H with
 |some (.row _ (.glob _ g' _ _))=>Nat.beq g g'
 |_=>false
def uR(ρ:ap)(n:Nat)(z:Int):ap:={ρ with i:=fun v=>if v=n then z else ρ.i v}
theorem qi(ρ:ap)(n:Nat)(z:Int):b7 n (n+1) ρ (uR ρ n z):=by
 constructor<;>intro v hv<;>first|rfl|(simp only[uR];rw[if_neg (by omega)])
def eJ(ie v:IE):List Int→Nat→BE
 |[],_=> .lit false
 |a::r,j=> .ite (.cmp .eql ie (.lit (j:Nat))) (.cmp .eql v (.lit a)) (eJ ie v r (j+1))
theorem sR{ρ:ap}{ie v:IE}:∀(l:List Int) (j d:Nat) (h:d<l.length),ie.den ρ=((j+d:Nat):Int)→v.den ρ=l[d]→(eJ ie v l j).den ρ=true
 |a::r,j,0,h,h1,h2=>by
  simp only[List.getElem_cons_zero]at h2
  simp only[eJ,BE.den,bv,IE.den,h1,h2]
  simp
 |a::r,j,d+1,h,h1,h2=>by
  simp only[List.getElem_cons_succ]at h2
  have hne:¬ie.den ρ=(j:Int):=by rw[h1];omega
  have ih:=sR (ρ:=ρ) (ie:=ie) (v:=v) r (j+1) d (by simpa using h) (by rw[h1];congr 1;omega) h2
  have hb:(ie.den ρ==(j:Int))=false:=by simpa using hne
  simp only[eJ,BE.den,bv,IE.den,hb,ih]
  rfl
def sGl(P:Program)(R H:af)(n:Nat)(c:BE)(o:Op):Option OR:=
 match o with
 |.indexAddr t (.global g) y=>match ep R c y,X2 g H with
  |some s,some id=>bif Hj H id g then C4 n (q8 P H t (.ptr (.at id 0)) s)else none
  |_,_=>none
 |.load t x=>match ep R c x,BQ P t with
  |some (.ptr (.ax id 0 ie 1)),some false=>match ai (.h id) H with
   |some (.row _ (.glob _ _ k l))=>some ⟨[.be (.cmp .leq (.lit 0) ie),.be (.cmp .lss ie (.lit (l.length:Nat)))],bif Nat.ble 20 l.length&&ie.avo n (n+1)then[.be (eJ ie (.var n) l 0)]else[],.int k (.var n),[],n+1⟩
   |_=>none
  |_,_=>none
 |_=>none
theorem abg{P:Program}{R H:af}{n:Nat}{c:BE}{o:Oper}{r:OR}(h:sGl P R H n c o.op=some r):n9 P o c R H n r:=by
 unfold sGl at h
 split at h
 ·rename_i t g y ho
  split at h
  ·rename_i s id hs hf
   cases hg:Hj H id g
   ·rw[hg]at h;cases h
   ·rw[hg]at h
    simp only[cond_true]at h
    obtain⟨v,x,hx,rfl⟩:=lH h
    refine .pure fun C nt ρ a w HH RR hc hv=>?_
    have hk:ρ.k id=g:=by
     unfold Hj at hg
     split at hg
     ·rename_i o' e g' k l hl
      have h1:=HH.rows id o' _ hl
      simp only[am.holds]at h1
      rw[h1.1,Nat.eq_of_beq_eq_true hg]
     ·cases hg
    have hev:a.eval (.global g)=(SV.ptr (.at id 0)).den ρ:=by simp only[Act.eval,SV.den,PT.addr,hk]
    simp only[execOp,ho,hev,az RR hc hs,Sem.run_bind,nz HH hx hv,Result.andThen_ok,Sem.run_pure]
  ·cases h
 ·rename_i t x ho
  split at h
  ·rename_i id ie hs ha
   split at h
   ·rename_i o' e g k l hl
    obtain rfl:=Option.some.inj h
    intro C nt ρ a w HH RR hc hv hL
    have h1:=HH.rows id o' _ hl
    simp only[am.holds]at h1
    obtain⟨-,_,f,hw⟩:=h1
    have b0:=cd (aa.1 hv).1
    have b1:=cL (aa.1 (aa.1 hv).2).1
    simp only[IE.den]at b0 b1
    have hlt:(ie.den ρ).toNat<l.length:=by omega
    have hcell:w.cell? ((PT.ax id 0 ie 1).addr ρ)=some (.int k l[(ie.den ρ).toNat]):=by
     simp only[PT.addr,World.cell?,hw]
     simp[hlt]
    refine⟨uR ρ n l[(ie.den ρ).toNat],w,.value (.int k l[(ie.den ρ).toNat]),?_,.inl ?_,qi _ _ _,?_,HH.agr (qi _ _ _) hL⟩
    rotate_left
    rotate_left
    ·cases hgc:(Nat.ble 20 l.length&&ie.avo n (n+1))
     ·exact aj _
     ·simp only[Bool.and_eq_true]at hgc
      have hie:ie.den (uR ρ n l[(ie.den ρ).toNat])=ie.den ρ:=IE.ag (qi _ _ _) ie hgc.2
      refine aa.2 ⟨?_,aj _⟩
      refine sR l 0 (ie.den ρ).toNat hlt ?_ ?_
      ·rw[hie];omega
      ·simp[IE.den,uR]
    ·have hrun:(Instr.loadAt t ((SV.ptr (.ax id 0 ie 1)).den ρ)).run P w=.ok (.int k l[(ie.den ρ).toNat]) w:=by
      simp only[SV.den,Instr.loadAt,Instr.sureAddr,Sem.run_bind,Sem.run_pure,Result.andThen,loadVar,jG w ha,Bool.false_eq_true,if_false,run_load,hcell]
     simp only[execOp,ho,az RR hc hs,Sem.run_bind,hrun,Result.andThen_ok,Sem.run_pure]
    ·simp[SV.den,IE.den,uR]
   ·cases h
  ·cases h
 ·cases h
def nG(ρ:ap)(n:Nat)(b:Bool)(k off:Nat)(x:Value)(l:Nat→Nat→Int)(z:Int):ap:=
 {ρ with i:=fun v=>if v=n then z else ρ.i v,b:=fun v=>if v=n then b else ρ.b v,k:=fun v=>if v=n then k else ρ.k v,f:=fun v=>if v=n then(fun _=>off)else ρ.f v,l:=fun v=>if v=n then l else ρ.l v,x:=fun v=>if v=n then x else ρ.x v}
theorem sS(ρ:ap)(n:Nat)(b:Bool)(k off:Nat)(x:Value)(l:Nat→Nat→Int)(z:Int):b7 n (n+1) ρ (nG ρ n b k off x l z):=by
 constructor<;>intro v hv<;>first|rfl|(simp only[nG];rw[if_neg (by omega)])
theorem X3(ρ:ap)(n:Nat)(b:Bool)(k off:Nat)(x:Value)(l:Nat→Nat→Int)(z:Int):(nG ρ n b k off x l z).b n=b∧(nG ρ n b k off x l z).k n=k∧(nG ρ n b k off x l z).f n 0=off∧(nG ρ n b k off x l z).x n=x∧(nG ρ n b k off x l z).l n=l∧(nG ρ n b k off x l z).i n=z:=by
 simp[nG]
def Ca:List SV→Option (Nat×Nat×IE)
 |[]=>none
 |.yv fa i::_=>some (0,fa,i)
 |_::r=>match Ca r with
  |some (p,fa,i)=>some (p+1,fa,i)
  |none=>none
theorem uS:∀{l:List SV} {p fa:Nat} {i:IE},Ca l=some (p,fa,i)→l[p]? =some (.yv fa i)
 |[],p,fa,i,h=>by cases h
 |s::r,p,fa,i,h=>by
  cases s with
  |yv a j=>
   simp only[Ca,Option.some.injEq,Prod.mk.injEq]at h
   obtain⟨rfl,rfl,rfl⟩:=h
   rfl
  |_=>
   simp only[Ca]at h
   split at h
   ·rename_i p' fa' i' hr
    simp only[Option.some.injEq,Prod.mk.injEq]at h
    obtain⟨rfl,rfl,rfl⟩:=h
    rw[List.getElem?_cons_succ]
    exact uS (l:=r) hr
   ·cases h
def Cc(H:af)(n:Nat)(v:List F)(fa:Nat)(i:IE)(s:SV):Option OR:=
 match ai (.h fa) H with
 |some (.row false (.sls e ks m le))=>bif i.avo n (n+1)then some ⟨v++[.be (.cmp .leq (.lit 0) i),.be (.cmp .lss i m)],[.be (.cmp .leq (.lit 0) (gA le i 0)),.be (.cmp .leq (gA le i 0) (.lit (Int.ofNat (slB e))))],s,[(.h n,.row false (.lst e (ks.map CK.int) (gA le i 0) (.var n)))],n+1⟩else none
 |_=>none
def X4(P:Program)(R H:af)(n:Nat)(c:BE)(o:Op):Option OR:=
 match o with
 |.load t x=>match ep R c x with
  |some s=>match uL P H t s with
   |some (v,.yv fa i)=>Cc H n v fa i (.lst n)
   |some (v,.agg l)=>match Ca l with
    |some (p,fa,i)=>bif SV.avos n (n+1) l then Cc H n v fa i (.agg (l.set p (.lst n)))else none
    |none=>none
   |_=>none
  |none=>none
 |_=>none
theorem Cd{H:af}{n:Nat}{v:List F}{fa:Nat}{i:IE}{s:SV}{r:OR}(h:Cc H n v fa i s=some r){C:bp}{ρ:ap}{w:World}(HH:HD C ρ H w)(hv:ar ρ r.vcs)(hL:af.avo n r.nxt H=true):
 ar ρ v∧r.val=s∧∃ρ',b7 n r.nxt ρ ρ'∧ar ρ' r.facts∧HD C ρ' (r.log++H) w∧ρ'.x n=ρ.y fa (i.den ρ).toNat:=by
 unfold Cc at h
 split at h
 ·rename_i e ks m le hl
  cases hia:i.avo n (n+1)
  ·rw[hia]at h;cases h
  rw[hia]at h
  obtain rfl:=Option.some.inj h
  have hv1:=(aA.1 hv).1
  have hv2:=(aA.1 hv).2
  have b0:=cd (aa.1 hv2).1
  have b1:=cL (aa.1 (aa.1 hv2).2).1
  simp only[IE.den]at b0
  have hi:(i.den ρ).toNat<(m.den ρ).toNat:=by omega
  have hrow:=HH.rows fa false _ hl
  simp only[am.holds]at hrow
  have hL':af.avo n (n+1) H=true:=hL
  have hne:fa≠n:=by
   have:=aF (af.al hL' hl).1
   omega
  refine⟨hv1,rfl,?_⟩
  have avS:=(af.al hL' hl).2
  simp only[aY.avo,am.avo,Bool.and_eq_true]at avS
  have hlen:∀{σ:ap},b7 n (n+1) ρ σ→(gA le i 0).den σ=le.den ρ (i.den ρ).toNat 0:=fun hg=>by rw[iX,IE.ag hg i hia,LE.ag hg le avS.2]
  have fin:∀(b:Bool) (k off:Nat) (l:Nat→Nat→Int) (z:Int),(0≤z∧z≤Int.ofNat (slB e))→le.den ρ (i.den ρ).toNat 0=z→(am.lst e (ks.map CK.int) (gA le i 0) (.var n)).holds (nG ρ n b k off (ρ.y fa (i.den ρ).toNat) l z) n w→
   (b=true→sx e (ρ.y fa (i.den ρ).toNat) k)→
   ∃ρ',b7 n (n+1) ρ ρ'∧ar ρ' [.be (.cmp .leq (.lit 0) (gA le i 0)),.be (.cmp .leq (gA le i 0) (.lit (Int.ofNat (slB e))))]∧HD C ρ' ((.h n,.row false (.lst e (ks.map CK.int) (gA le i 0) (.var n)))::H) w∧ρ'.x n=ρ.y fa (i.den ρ).toNat:=by
   intro b k off l z hz hlz hh hb
   have hag:=sS ρ n b k off (ρ.y fa (i.den ρ).toNat) l z
   have hd:=HH.agr hag hL
   have hown:∀c,(am.lst e (ks.map CK.int) (gA le i 0) (.var n)).owns (nG ρ n b k off (ρ.y fa (i.den ρ).toNat) l z) n c→(am.sls e ks m le).owns (nG ρ n b k off (ρ.y fa (i.den ρ).toNat) l z) fa c:=by
    intro c hc
    simp only[am.owns,nG,if_true]at hc⊢
    obtain⟨h1,rfl⟩:=hc
    refine⟨(i.den ρ).toNat,?_,hb h1⟩
    have:=IE.ag hag m avS.1
    simp only[nG]at this
    rw[this];exact hi
   refine⟨_,hag,?_,hd.step rfl rfl rfl (Nat.le_refl _) (fun _ _=>rfl) (fun _ _ _ _ _ _ _=>rfl) hh (fun e=>by cases e) (fun _ c hc=>hd.ro fa _ hl c (hown c hc)) (fun j p t hj hlj hp c hc ht=>?_),?_⟩
   ·refine aa.2 ⟨?_,aa.2 ⟨?_,aj _⟩⟩<;>simp only[F.holds,BE.den,IE.den,bv,hlen hag,hlz]
    ·exact decide_eq_true hz.1
    ·exact decide_eq_true hz.2
   ·rcases hp with hp|hp
    ·cases hp
    ·subst hp
     exact hd.dis fa j _ _ hl hlj c (hown c hc) ht
   ·simp only[nG,if_true]
  rcases hrow _ hi with⟨a,c,hy,h',hq⟩|⟨b,off,k,c,cs,f,z,hy,hk,hw,hkc,hk1,hcs,hz,hq⟩
  ·have hQ:=hlen (sS ρ n false 0 0 (ρ.y fa (i.den ρ).toNat) (fun _ _=>0) 0)
   refine fin false 0 0 (fun _ _=>0) 0 ⟨Int.le_refl _,Int.natCast_nonneg _⟩ hq ?_ (fun h=>by cases h)
   obtain⟨s1,s2,s3,s4,s5,s6⟩:=X3 ρ n false 0 0 (ρ.y fa (i.den ρ).toNat) (fun _ _=>0) 0
   unfold am.holds
   rw[s1,s4]
   refine⟨fun _=>⟨by rw[hQ,hq];rfl,?_⟩,fun h=>by cases h⟩
   rcases h' with h'|⟨h1,h2⟩
   ·exact .inr ⟨h',a,c,hy⟩
   ·subst h1 h2;exact .inl hy
  ·have hQ:=hlen (sS ρ n true b off (ρ.y fa (i.den ρ).toNat) (fun i j=>match cs[off+i*ks.length+j]? with|some (.int _ v)=>v|_=>0) (k:Int))
   rw[hq]at hQ
   refine fin true b off (fun i j=>match cs[off+i*ks.length+j]? with|some (.int _ v)=>v|_=>0) (k:Int) ⟨Int.natCast_nonneg _,Int.ofNat_le.2 hk1⟩ hq ?_ (fun _=>⟨off,k,c,hk,hy⟩)
   obtain⟨s1,s2,s3,s4,s5,s6⟩:=X3 ρ n true b off (ρ.y fa (i.den ρ).toNat) (fun i j=>match cs[off+i*ks.length+j]? with|some (.int _ v)=>v|_=>0) (k:Int)
   unfold am.holds
   rw[s1,s2,s3,s4]
   refine⟨fun h=>(by cases h),fun _=>⟨cs,c,?_,?_,?_,by rw[hQ,Int.toNat_natCast];exact hkc,fun i' hi' j k' hk'=>?_⟩⟩
   ·rw[hQ,Int.toNat_natCast];exact hy
   ·rcases hz with hz|⟨h1,h2,_⟩
    ·exact .inr ⟨hz,f,z,hw⟩
    ·subst h1 h2;exact .inl hw
   ·rcases hz with hz|⟨_,_,h3⟩
    ·exact .inl hz
    ·exact .inr (by rw[List.length_map];exact h3)
   ·rw[List.getElem?_map]at hk'
    cases hkj:ks[j]? with
    |none=>rw[hkj]at hk';cases hk'
    |some k0=>
     rw[hkj]at hk'
     obtain rfl:=Option.some.inj hk'
     obtain⟨v0,hv0⟩:=hcs i' (by rw[hQ,Int.toNat_natCast]at hi';exact hi') j k0 hkj
     rw[List.length_map]
     simp only[LE.den,s5,CK.v,hv0]
 ·cases h
theorem X5{P:Program}{R H:af}{n:Nat}{c:BE}{o:Oper}{r:OR}(h:X4 P R H n c o.op=some r):n9 P o c R H n r:=by
 unfold X4 at h
 split at h
 ·rename_i t x ho
  split at h
  ·rename_i s hs
   split at h
   ·rename_i v fa i hld
    intro C nt ρ a w HH RR hc hv hL
    obtain⟨h1,h2,ρ',h3,h4,h5,h6⟩:=Cd h HH hv hL
    refine⟨ρ',w,.value (ρ.y fa (i.den ρ).toNat),?_,.inl ?_,h3,h4,h5⟩
    ·simp only[execOp,ho,az RR hc hs,Sem.run_bind,lD HH hld h1,Result.andThen_ok,Sem.run_pure,SV.den]
    ·rw[h2];simp only[SV.den,h6]
   ·rename_i v l hld
    split at h
    ·rename_i p fa i hf
     cases hav:SV.avos n (n+1) l
     ·rw[hav]at h;cases h
     ·rw[hav]at h
      simp only[cond_true]at h
      intro C nt ρ a w HH RR hc hv hL
      have hnx:r.nxt=n+1:=by
       unfold Cc at h
       split at h
       ·cases hia:i.avo n (n+1)
        ·rw[hia]at h;cases h
        ·rw[hia]at h;rw[←Option.some.inj h]
       ·cases h
      obtain⟨h1,h2,ρ',h3,h4,h5,h6⟩:=Cd h HH hv hL
      refine⟨ρ',w,.value ((SV.agg l).den ρ),?_,.inl ?_,h3,h4,h5⟩
      ·simp only[execOp,ho,az RR hc hs,Sem.run_bind,lD HH hld h1,Result.andThen_ok,Sem.run_pure]
      ·rw[h2]
       rw[hnx]at h3
       simp only[SV.den,SV.b9]
       have hl:l.map (SV.den ρ)=l.map (SV.den ρ'):=by rw[←SV.b9,←SV.b9,SV.eH h3 l hav]
       rw[hl,List.map_set]
       have hp:(l.map (SV.den ρ'))[p]? =some ((SV.lst n).den ρ'):=by
        rw[←hl,List.getElem?_map,uS hf]
        simp only[Option.map_some,SV.den,h6]
       obtain⟨hlt,hpe⟩:=List.getElem?_eq_some_iff.1 hp
       rw[←hpe,List.set_getElem_self]
    ·cases h
   ·cases h
  ·cases h
 ·cases h
def abh(P:Program)(R H:af)(n:Nat)(c:BE)(o:Op):Option OR:=
 match o with
 |.call {callee:=.builtin .append,args,argTypes}=>match pY R c args.toList,argTypes.toList with
  |some [x,y],[t,tx]=>match WU P H n t tx x y with
   |some r=>some r
   |none=>WZ P H n t tx x y
  |_,_=>none
 |_=>none
theorem a6e{P:Program}{R H:af}{n:Nat}{c:BE}{o:Oper}{r:OR}(h:abh P R H n c o.op=some r):n9 P o c R H n r:=by
 unfold abh at h
 split at h
 ·rename_i args ts ho
  split at h
  ·rename_i x y t tx hx hts
   have hts':ts=#[t,tx]:=by rw[←Array.toArray_toList (xs:=ts),hts]
   intro C nt ρ a w HH RR hc hv hL
   have hrr:∃ρ' w',(Builtin.append_ #[t,tx] o.type #[x.den ρ,y.den ρ]).run P w=.ok (r.val.den ρ') w'∧b7 n r.nxt ρ ρ'∧ar ρ' r.facts∧HD C ρ' (r.log++H) w':=by
    split at h
    ·rename_i r' hr;obtain rfl:=Option.some.inj h;exact OS (ty:=o.type) HH hr hL hv
    ·exact OT (ty:=o.type) HH h hL hv
   obtain⟨ρ',w',h1,h2,h3,h4⟩:=hrr
   refine⟨ρ',w',_,?_,.inl rfl,h2,h3,h4⟩
   have e1:args.map a.eval=#[x.den ρ,y.den ρ]:=by
    have:=dk RR hc hx
    rw[←Array.toArray_toList (xs:=args)];simp only[List.map_toArray,this];rfl
   simp only[execOp,ho,resolve,Sem.run_bind,Sem.run_pure,Result.andThen_ok,invoke,builtin,e1,hts',h1]
  ·cases h
 ·cases h
def a6f(P:Program)(R H:af)(n:Nat)(c:BE)(o:Op):Option OR:=
 match sGl P R H n c o with
 |some r=>some r
 |none=>match X4 P R H n c o with
  |some r=>some r
  |none=>match abh P R H n c o with
   |some r=>some r
   |none=>match abd P R H n c o with
    |some r=>some r
    |none=>match sFx P R H n c o with
     |some r=>some r
     |none=>sop P R H n c o
theorem a6g{P:Program}{R H:af}{n:Nat}{c:BE}{o:Oper}{r:OR}(h:a6f P R H n c o.op=some r):n9 P o c R H n r:=by
 unfold a6f at h
 split at h
 ·rename_i r' hr;obtain rfl:=Option.some.inj h;exact abg hr
 ·split at h
  ·rename_i r' hr;obtain rfl:=Option.some.inj h;exact X5 hr
  ·split at h
   ·rename_i r' hr;obtain rfl:=Option.some.inj h;exact a6e hr
   ·split at h
    ·rename_i r' hr;obtain rfl:=Option.some.inj h;exact a69 hr
    ·split at h
     ·rename_i r' hr;obtain rfl:=Option.some.inj h;exact abe hr
     ·exact abb h
def MW(n:Nat)(g:List F)(r:OR):Option sQ:=
 bif Nat.ble n r.nxt&&(Nat.ble r.nxt ay&&(F.avos r.nxt ay r.facts&&(r.val.avo r.nxt ay&&af.avo r.nxt ay r.log)))then
  some ⟨(r.vcs.filter fun v=>!(nE v)).map fun v=>(g,v),.lf ⟨r.facts,[],r.val,r.log⟩,r.nxt⟩
 else none
def qL(P:Program)(call:aU)(R H:af)(n:Nat)(g:List F)(c:BE)(o:Op):Option sQ:=
 match o with
 |.call {callee:=.value f,args,..}=>
  match ep R c f,pY R c args.toList with
  |some (.fn (.func fid) a b),some l=>
   bif lI P fid then call fid (a++(l++b)) n H g
   else match sXt P H n fid (a++(l++b))with
    |some r=>MW n g r
    |none=>none
  |_,_=>none
 |o=>
  match aa3 P R H c o with
  |some (l,s)=>bif jL n l s then some ⟨[],qf [] l s,n⟩else none
  |none=>
  match X1 P R g c o with
  |some (v,l,s)=>bif jL n l s then some ⟨v.map fun v=>(g,v),qf [] l s,n⟩else none
  |none=>
  match a6f P R H n c o with
  |some r=>MW n g r
  |none=>none
theorem af.fU{n:Nat}{L:af}(h:af.avo n ay L=true){m:Nat}(hm:m≤ay):af.avo n m L=true:=af.ad (Nat.le_refl _) hm L h
theorem Ce{n:Nat}{R:af}(h:af.avo n ay R=true){c:BE}:∀{xs:List Operand} {l:List SV},pY R c xs=some l→SV.avos n ay l=true:=by
 have one:∀{x:Operand} {s:SV},ep R c x=some s→s.avo n ay=true:=by
  intro x s hs
  cases x with
  |tmp t=>
   simp only[ep]at hs
   split at hs
   ·rename_i d s' hl
    cases hi:Wt c d
    ·rw[hi]at hs;cases hs
    ·rw[hi]at hs
     obtain rfl:=Option.some.inj hs
     have:=(af.al h hl).2
     simp only[aY.avo,Bool.and_eq_true]at this
     exact this.2
   ·cases hs
  |const v=>
   simp only[ep]at hs;obtain rfl:=Option.some.inj hs
   have hc:∀v,(kT v).avo n ay=true:=by intro v;unfold kT;split<;>rfl
   unfold ofValue;split
   ·simp only[SV.avo]
    rename_i cs
    induction cs.toList with
    |nil=>rfl
    |cons a r ih=>simp only[List.map_cons,SV.avos,hc,ih,Bool.and_self]
   ·exact hc _
  |func f=>simp only[ep]at hs;obtain rfl:=Option.some.inj hs;rfl
  |global g=>cases hs
 intro xs
 induction xs with
 |nil=>intro l hs;simp only[pY]at hs;obtain rfl:=Option.some.inj hs;rfl
 |cons x r ih=>
  intro l hs
  simp only[pY]at hs
  split at hs
  ·rename_i s l' h1 h2
   obtain rfl:=Option.some.inj hs
   simp only[SV.avos,one h1,ih h2,Bool.and_self]
  ·cases hs
theorem MX{n:Nat}{R:af}(h:af.avo n ay R=true){c:BE}{x:Operand}{s:SV}(hs:ep R c x=some s):s.avo n ay=true:=by
 have:=Ce h (c:=c) (xs:=[x]) (l:=[s]) (by simp only[pY,hs])
 simp only[SV.avos,Bool.and_eq_true]at this
 exact this.1
theorem SV.bt{lo hi:Nat}:∀{l m:List SV},SV.avos lo hi l=true→SV.avos lo hi m=true→SV.avos lo hi (l++m)=true
 |[],m,_,g=>g
 |s::r,m,h,g=>by
  simp only[SV.avos,Bool.and_eq_true]at h
  simp only[List.cons_append,SV.avos,Bool.and_eq_true]
  exact⟨h.1,SV.bt h.2 g⟩
def FC(ro:Option Nat):Fence:={Fence.wide with round:=ro}
theorem sT{ro:Option Nat}{n:Nat}{P:Program}{f:FuncId}{args:Array Value}{w:World}{R:Ending→World→Prop}(h:Calls P f args w R):CallsIn (FC ro) n P f args w R:=
 (callsIn_wide (n:=n)).2 h
theorem Hk{ro:Option Nat}{n:Nat}{P:Program}{o:Oper}{a:Act}{w:World}{K:Act→World→Prop}{Q:Exit→Act→World→Prop}(hd:∀c,o.op≠.defer c)(h:o.wp P a w K Q):o.wpIn (FC ro) n P a w K Q:=by
 refine⟨fun _ _=>trivial,?_⟩
 rw[Oper.semAt_eq _ _ _ hd]
 unfold Oper.wp at h
 revert h
 generalize (execOp a.eval o).run P w=r
 intro h
 cases r with
 |ok nx w'=>
  cases nx with
  |value v=>exact h
  |skip=>exact h
  |defer d=>exact h
  |enter f args=>exact⟨fun h=>(by cases h),sT h⟩
  |row row args=>
   refine⟨fun h=>(by cases h),fun c cs _=>?_⟩
   obtain⟨v,w'',h1,h2⟩:=h c cs
   exact⟨v,w'',h1,stepsIn_wide.2 h2⟩
  |_=>exact h.elim
 |halt st w'=>cases st<;>first|exact h|exact h.elim
theorem X6{P:Program}{call:aU}{R H:af}{n:Nat}{g:List F}{c:BE}{op:Op}{out:sQ}(h:qL P call R H n g c op=some out):∀d,op≠.defer d:=by
 rintro d rfl
 cases h
theorem OV{P:Program}{call:aU}(hcall:bI P call)(hN:iS P){R H:af}{n:Nat}{g:List F}{c:BE}{o:Oper}{out:sQ}(h:qL P call R H n g c o.op=some out)
 (hR:af.avo n ay R=true) (hH:af.avo n ay H=true) (hg:F.avos n ay g=true) (hn:n≤ay):
 n≤out.n∧out.n≤ay∧out.t.all out.n (dt.ws out.n)∧
 (ab out.vcs→∀(C:bp) (nt:Nat) (ρ:ap) (a:Act) (w:World),ar ρ g→HD C ρ H w→RD nt ρ R a→c.den ρ=true→
   ∀(K:Act→World→Prop) (Q:Exit→Act→World→Prop),
    (∀ρ' w' v,b7 n out.n ρ ρ'→(out.t.post ρ' fun x=>ar ρ' x.fs∧ar ρ' x.pc∧v=x.s.den ρ'∧HD C ρ' (x.pre++H) w')→K (a.put o.dst v) w')→o.wp P a w K Q):=by
 unfold qL at h
 split at h
 ·rename_i f args ts ho
  split at h
  ·rename_i fid a1 b1 l hf hl
   cases hb:lI P fid
   ·rw[hb]at h
    simp only[cond_false]at h
    cases hx:sXt P H n fid (a1++(l++b1))with
    |none=>rw[hx]at h;cases h
    |some r=>
    rw[hx]at h
    simp only[MW]at h
    cases hb2:(Nat.ble n r.nxt&&(Nat.ble r.nxt ay&&(F.avos r.nxt ay r.facts&&(r.val.avo r.nxt ay&&af.avo r.nxt ay r.log))))
    ·rw[hb2]at h;cases h
    ·rw[hb2]at h
     obtain rfl:=Option.some.inj h
     simp only[Bool.and_eq_true]at hb2
     obtain⟨b1',b2,b3,b4,b5⟩:=hb2
     have hle:=Nat.le_of_ble_eq_true b1'
     have hbig:=Nat.le_of_ble_eq_true b2
     refine⟨hle,hbig,⟨b3,rfl,b4,b5⟩,fun hv C nt ρ a w hgρ HH RR hc K Q hK=>?_⟩
     have hvc:ar ρ r.vcs:=fun v hvm=>by
      cases hp:nE v
      ·exact hv (g,v) (List.mem_map.2 ⟨v,List.mem_filter.2 ⟨hvm,by rw[hp];rfl⟩,rfl⟩) ρ hgρ
      ·exact qe hp ρ
     obtain⟨⟨w',hrun,hd⟩,hfs,hnx⟩:=a68 HH hx hvc
     have hev:=az RR hc hf
     have hargs:args.map a.eval=(l.map (SV.den ρ)).toArray:=by rw[←dk RR hc hl,gQ]
     have hrun':(execOp a.eval o).run P w=.ok (.value (r.val.den ρ)) w':=by
      rw[←hrun]
      simp only[execOp,ho,resolve,hev,SV.den,SV.b9,Deferred.ofValue,hargs,Sem.run_bind,Sem.run_pure,Result.andThen_ok,invoke]
      simp[List.map_append]
     simp only[Oper.wp,hrun']
     exact hK ρ w' _ (b7.refl _ _ _) ⟨by rw[hfs];exact aj _,aj _,rfl,hd⟩
   ·rw[hb]at h
    simp only[cond_true]at h
    have hfa:=MX hR hf
    simp only[SV.avo,Bool.and_eq_true]at hfa
    obtain⟨h1,h2,h3,h4⟩:=hcall fid _ n H g out h hH (SV.bt hfa.1 (SV.bt (Ce hR hl) hfa.2)) hg hn
    refine⟨h1,h2,h3,fun hv C nt ρ a w hgρ HH RR hc K Q hK=>?_⟩
    have hcalls:=h4 hv C ρ w hgρ HH
    have hev:=az RR hc hf
    have hargs:args.map a.eval=(l.map (SV.den ρ)).toArray:=by rw[←dk RR hc hl,gQ]
    have hrun:(execOp a.eval o).run P w=.ok (.enter fid ((a1++(l++b1)).map (SV.den ρ)).toArray) w:=by
     simp only[execOp,ho,resolve,hev,SV.den,SV.b9,Deferred.ofValue,hargs,Sem.run_bind,Sem.run_pure,Result.andThen_ok,invoke,ob hN hb]
     simp[List.map_append]
    simp only[Oper.wp,hrun,Oper.upon]
    refine hcalls.mono fun e w' he=>?_
    obtain⟨ρ',hagr,hp⟩:=he
    cases e with
    |returned v=>
     exact hK ρ' w' v hagr (T.bd (fun x hx=>⟨hx.1,hx.2.1,by have:=hx.2.2.1;injection this,hx.2.2.2⟩) hp)
    |panicked ch=>
     exfalso
     have:∀t:T dt,(t.post ρ' fun x=>ar ρ' x.fs∧ar ρ' x.pc∧(Ending.panicked ch)=.returned (x.s.den ρ')∧HD C ρ' (x.pre++H) w')→False:=by
      intro t
      induction t with
      |lf x=>intro hx;have:=hx.2.2.1;cases this
      |nd c a b iha ihb=>intro hx;simp only[T.post]at hx;split at hx;exact iha hx;exact ihb hx
      |or a b iha ihb=>intro hx;exact hx.elim iha ihb
      |no=>exact fun hx=>hx
     exact this _ hp
    |outgrown=>
     exfalso
     have:∀t:T dt,(t.post ρ' fun x=>ar ρ' x.fs∧ar ρ' x.pc∧Ending.outgrown=.returned (x.s.den ρ')∧HD C ρ' (x.pre++H) w')→False:=by
      intro t
      induction t with
      |lf x=>intro hx;have:=hx.2.2.1;cases this
      |nd c a b iha ihb=>intro hx;simp only[T.post]at hx;split at hx;exact iha hx;exact ihb hx
      |or a b iha ihb=>intro hx;exact hx.elim iha ihb
      |no=>exact fun hx=>hx
     exact this _ hp
  ·cases h
 ·split at h
  ·rename_i l s htr
   cases hb:jL n l s
   ·rw[hb]at h;cases h
   ·rw[hb]at h
    obtain rfl:=Option.some.inj h
    refine⟨Nat.le_refl _,hn,qg hb rfl,fun hv C nt ρ a w hgρ HH RR hc K Q hK=>?_⟩
    unfold aa3 at htr
    split at htr
    ·rename_i t m k ok ho
     split at htr
     ·rename_i sm sk hm hk
      have hrun:=Hi (P:=P) HH htr
      have hex:(execOp a.eval o).run P w=.ok (.value (fz ρ l s)) w:=by
       simp only[execOp,ho,az RR hc hm,az RR hc hk,Sem.run_bind,hrun,Result.andThen_ok,Sem.run_pure]
      simp only[Oper.wp,hex]
      refine hK ρ w _ (b7.refl _ _ _) (T.bd (fun x hx=>?_) (kX (q:=fun y=>fz ρ l s=y.den ρ) (aj _) fun y hy=>hy.symm))
      obtain⟨h1,h2,h3,h4⟩:=hx
      exact⟨by rw[h1];exact aj _,h2,h3,by rw[h4];exact HH⟩
     ·cases htr
    ·cases htr
  ·split at h
   ·rename_i v2 l s hix
    cases hb:jL n l s
    ·rw[hb]at h;cases h
    ·rw[hb]at h
     obtain rfl:=Option.some.inj h
     refine⟨Nat.le_refl _,hn,qg hb rfl,fun hv C nt ρ a w hgρ HH RR hc K Q hK=>?_⟩
     have hex:=OU hix hgρ HH RR hc (fun v hvm=>hv (g,v) (List.mem_map.2 ⟨v,hvm,rfl⟩) ρ hgρ)
     simp only[Oper.wp,hex]
     refine hK ρ w _ (b7.refl _ _ _) (T.bd (fun x hx=>?_) (kX (q:=fun y=>fz ρ l s=y.den ρ) (aj _) fun y hy=>hy.symm))
     obtain⟨h1,h2,h3,h4⟩:=hx
     exact⟨by rw[h1];exact aj _,h2,h3,by rw[h4];exact HH⟩
   ·cases hr:a6f P R H n c o.op with
    |none=>rw[hr]at h;cases h
    |some r=>
    rw[hr]at h
    simp only[MW]at h
    cases hb:(Nat.ble n r.nxt&&(Nat.ble r.nxt ay&&(F.avos r.nxt ay r.facts&&(r.val.avo r.nxt ay&&af.avo r.nxt ay r.log))))
    ·rw[hb]at h;cases h
    ·rw[hb]at h
     obtain rfl:=Option.some.inj h
     simp only[Bool.and_eq_true]at hb
     obtain⟨b1,b2,b3,b4,b5⟩:=hb
     have hle:=Nat.le_of_ble_eq_true b1
     have hbig:=Nat.le_of_ble_eq_true b2
     refine⟨hle,hbig,⟨b3,rfl,b4,b5⟩,fun hv C nt ρ a w hgρ HH RR hc K Q hK=>?_⟩
     have hvc:ar ρ r.vcs:=fun v hvm=>by
      cases hp:nE v
      ·exact hv (g,v) (List.mem_map.2 ⟨v,List.mem_filter.2 ⟨hvm,by rw[hp];rfl⟩,rfl⟩) ρ hgρ
      ·exact qe hp ρ
     obtain⟨ρ',w',nx,hrun,hnx,hagr,hfs,hd⟩:=a6g hr C nt ρ a w HH RR hc hvc (af.fU hH hbig)
     simp only[Oper.wp,hrun]
     rcases hnx with rfl|⟨rfl,hu⟩
     ·exact hK ρ' w' _ hagr ⟨hfs,aj _,rfl,hd⟩
     ·exact hK ρ' w' _ hagr ⟨hfs,aj _,hu.symm,hd⟩
theorem kZ{P:Program}{call:aU}(hcall:bI P call)(hN:iS P){R H:af}{n:Nat}{g:List F}{c:BE}{o:Oper}{out:sQ}(h:qL P call R H n g c o.op=some out)
 (hR:af.avo n ay R=true) (hH:af.avo n ay H=true) (hg:F.avos n ay g=true) (hn:n≤ay):
 n≤out.n∧out.n≤ay∧out.t.all out.n (dt.ws out.n)∧
 (ab out.vcs→∀(C:bp) (nt:Nat) (ρ:ap) (a:Act) (w:World),ar ρ g→HD C ρ H w→RD nt ρ R a→c.den ρ=true→
   ∀(K:Act→World→Prop) (Q:Exit→Act→World→Prop),
    (∀ρ' w' v,b7 n out.n ρ ρ'→(out.t.post ρ' fun x=>ar ρ' x.fs∧ar ρ' x.pc∧v=x.s.den ρ'∧HD C ρ' (x.pre++H) w')→K (a.put o.dst v) w')→o.wpIn (FC Fm.ro) 9 P a w K Q):=by
 obtain⟨h1,h2,h3,h4⟩:=OV hcall hN h hR hH hg hn
 exact⟨h1,h2,h3,fun hv C nt ρ a w hgρ HH RR hc K Q hK=>Hk (X6 h) (h4 hv C nt ρ a w hgρ HH RR hc K Q hK)⟩
end
section
variable [cg] [Fm]
structure Br where
 g:List F
 pc:List F
 R:af
 H:af
 pre:af
def Br.ws(base:af)(n:Nat)(b:Br):Prop:=F.avos n ay b.g=true∧F.avos n ay b.pc=true∧af.avo n ay b.R=true∧af.avo n ay b.H=true∧b.H=b.pre++base
theorem Br.bh{base:af}{n m:Nat}(h:n≤m){b:Br}(g:b.ws base n):b.ws base m:=
 ⟨F.aq h (Nat.le_refl _) g.1,F.aq h (Nat.le_refl _) g.2.1,af.ad h (Nat.le_refl _) _ g.2.2.1,af.ad h (Nat.le_refl _) _ g.2.2.2.1,g.2.2.2.2⟩
structure uj (C:bp) (nt:Nat) (ρ:ap) (b:Br) (a:Act) (w:World):Prop where
 g:ar ρ b.g
 pc:ar ρ b.pc
 hd:HD C ρ b.H w
 rd:RD nt ρ b.R a
inductive Ex where
 |normal
 |exit (id:Nat)
 |ret
def Ex.to:Ex→Exit
 |.normal=> .normal
 |.exit id=> .exit id
 |.ret=> .ret
abbrev nf(α:Type):=Option (dU×T α×Nat)
def gR{α β:Type}(f:α→Nat→nf β):T α→Nat→nf β
 |.lf x,n=>f x n
 |.nd c a b,n=>match gR f a n with
  |some (v1,t1,n1)=>match gR f b n1 with
   |some (v2,t2,n2)=>some (v1++v2,.nd c t1 t2,n2)
   |none=>none
  |none=>none
 |.or a b,n=>match gR f a n with
  |some (v1,t1,n1)=>match gR f b n1 with
   |some (v2,t2,n2)=>some (v1++v2,.or t1 t2,n2)
   |none=>none
  |none=>none
 |.no,n=>some ([],.no,n)
def j8{β:Type}(code:(Exit→Act→World→Prop)→Prop)(q:ap→β→Exit→Act→World→Prop)(ρ:ap)(n n':Nat)(t:T β):Prop:=
 ∀Q:Exit→Act→World→Prop,(∀e ρ' a' w',b7 n n' ρ ρ'→(t.post ρ' fun x=>q ρ' x e a' w')→Q e a' w')→code Q
theorem j8.range{β:Type}{code:(Exit→Act→World→Prop)→Prop}{q:ap→β→Exit→Act→World→Prop}{ρ:ap}{n n' m m':Nat}{t:T β}(h:j8 code q ρ n n' t)(h1:m≤n)(h2:n'≤m'):j8 code q ρ m m' t:=
 fun Q hQ=>h Q fun e ρ' a' w' hagr hp=>hQ e ρ' a' w' (hagr.mono h1 h2) hp
theorem j8.weaken{β:Type}{code:(Exit→Act→World→Prop)→Prop}{q:ap→β→Exit→Act→World→Prop}{ρ:ap}{n n':Nat}{t u:T β}(h:j8 code q ρ n n' t)
 (hw:∀ρ' (r:β→Prop),b7 n n' ρ ρ'→t.post ρ' r→u.post ρ' r):j8 code q ρ n n' u:=
 fun Q hQ=>h Q fun e ρ' a' w' hagr hp=>hQ e ρ' a' w' hagr (hw ρ' _ hagr hp)
theorem gE{α β:Type}{f:α→Nat→nf β}{ws:Nat→α→Prop}{ws':Nat→β→Prop}(hmono:∀n m x,n≤m→ws n x→ws m x)(hmono':∀n m x,n≤m→ws' n x→ws' m x)
 {p:ap→α→Prop} {code:(Exit→Act→World→Prop)→Prop} {q:ap→β→Exit→Act→World→Prop}
 (hf:∀x n v t n',f x n=some (v,t,n')→ws n x→n≤ay→n≤n'∧n'≤ay∧t.all n' (ws' n')∧(ab v→∀ρ,p ρ x→j8 code q ρ n n' t)):
 ∀(t0:T α) (n:Nat) (v:dU) (t:T β) (n':Nat),gR f t0 n=some (v,t,n')→t0.all n (ws n)→n≤ay→
  n≤n'∧n'≤ay∧t.all n' (ws' n')∧(ab v→∀ρ,t0.post ρ (p ρ)→j8 code q ρ n n' t):=by
 intro t0
 induction t0 with
 |lf x=>exact fun n v t n' h ha hn=>hf x n v t n' h ha hn
 |no=>
  intro n v t n' h ha hn
  simp only[gR,Option.some.injEq,Prod.mk.injEq]at h
  obtain⟨rfl,rfl,rfl⟩:=h
  exact⟨Nat.le_refl _,hn,trivial,fun _ ρ hp=>hp.elim⟩
 |nd c x y ihx ihy=>
  intro n v t n' h ha hn
  simp only[gR]at h
  split at h
  ·rename_i v1 t1 n1 h1
   split at h
   ·rename_i v2 t2 n2 h2
    simp only[Option.some.injEq,Prod.mk.injEq]at h
    obtain⟨rfl,rfl,rfl⟩:=h
    obtain⟨a1,a2,a3,a4⟩:=ihx n v1 t1 n1 h1 ha.2.1 hn
    obtain⟨b1,b2,b3,b4⟩:=ihy n1 v2 t2 n2 h2 (T.bo a1 (fun x hx=>hmono _ _ x a1 hx) ha.2.2) a2
    refine⟨by omega,b2,⟨BE.ad (by omega) (Nat.le_refl _) c ha.1,T.bo b1 (fun x hx=>hmono' _ _ x b1 hx) a3,b3⟩,fun hv ρ hp=>?_⟩
    simp only[T.post]at hp
    have hsame:∀ρ',b7 n n2 ρ ρ'→c.den ρ'=c.den ρ:=fun ρ' hagr=>BE.ag hagr c (BE.ad (Nat.le_refl _) b2 c ha.1)
    split at hp
    ·rename_i hc
     refine((a4 hv.app.1 ρ hp).range (Nat.le_refl _) b1).weaken fun ρ' r hagr hp'=>?_
     simp only[T.post];rw[if_pos (by rw[hsame ρ' hagr];exact hc)];exact hp'
    ·rename_i hc
     refine((b4 hv.app.2 ρ hp).range a1 (Nat.le_refl _)).weaken fun ρ' r hagr hp'=>?_
     simp only[T.post];rw[if_neg (by rw[hsame ρ' hagr];exact hc)];exact hp'
   ·cases h
  ·cases h
 |or x y ihx ihy=>
  intro n v t n' h ha hn
  simp only[gR]at h
  split at h
  ·rename_i v1 t1 n1 h1
   split at h
   ·rename_i v2 t2 n2 h2
    simp only[Option.some.injEq,Prod.mk.injEq]at h
    obtain⟨rfl,rfl,rfl⟩:=h
    obtain⟨a1,a2,a3,a4⟩:=ihx n v1 t1 n1 h1 ha.1 hn
    obtain⟨b1,b2,b3,b4⟩:=ihy n1 v2 t2 n2 h2 (T.bo a1 (fun x hx=>hmono _ _ x a1 hx) ha.2) a2
    refine⟨by omega,b2,⟨T.bo b1 (fun x hx=>hmono' _ _ x b1 hx) a3,b3⟩,fun hv ρ hp=>?_⟩
    rcases hp with hp|hp
    ·exact((a4 hv.app.1 ρ hp).range (Nat.le_refl _) b1).weaken fun ρ' r hagr hp'=> .inl hp'
    ·exact((b4 hv.app.2 ρ hp).range a1 (Nat.le_refl _)).weaken fun ρ' r hagr hp'=> .inr hp'
   ·cases h
  ·cases h
def gO(dst:Option Tmp)(c:BE)(s:SV)(R:af):af:=
 match dst with
 |some d=>(.r d,.reg c s)::R
 |none=>R
def sU(nt:Nat)(dst:Option Tmp):Bool:=
 match dst with
 |some d=>Nat.blt d nt
 |none=>true
theorem RD.put{nt:Nat}{ρ:ap}{R:af}{a:Act}(h:RD nt ρ R a){dst:Option Tmp}(hd:sU nt dst=true)(c:BE)(s:SV){v:Value}(hv:v=if c.den ρ then s.den ρ else undef):RD nt ρ (gO dst c s R) (a.put dst v):=by
 cases dst with
 |none=>exact h
 |some d=>
  have hlt:d<nt:=Nat.le_of_ble_eq_true hd
  refine⟨h.defers,by simp only[Act.put,Array.size_setIfInBounds];exact h.size,fun t c' s' hl=>?_⟩
  simp only[gO,ak]at hl
  simp only[Act.put,Array.getElem?_setIfInBounds]
  by_cases hdt:d=t
  ·subst hdt
   rw[if_pos rfl]at hl
   obtain⟨rfl,rfl⟩:=aY.reg.inj (Option.some.inj hl)
   rw[if_pos rfl,if_pos (by rw[h.size];exact hlt),hv]
  ·rw[if_neg (fun e=>hdt (aO.r.inj e))]at hl
   rw[if_neg hdt]
   exact h.regs t c' s' hl
theorem ja{n:Nat}{dst:Option Tmp}{c:BE}{s:SV}{R:af}(hc:c.avo n ay=true)(hs:s.avo n ay=true)(hR:af.avo n ay R=true):af.avo n ay (gO dst c s R)=true:=by
 cases dst with
 |none=>exact hR
 |some d=>simp only[gO,af.avo,aO.avo,aY.avo,hc,hs,hR,Bool.and_self]
def l4(all:Array Oper)(R:af)(o:Oper):Option BE:=
 match o.guard with
 |none=>some (.lit true)
 |some (j,want)=>
  match(all[j]?).bind (·.dst)with
  |some d=>match ai (.r d) R with
   |some (.reg c (.b e))=>some (nU c (bif want then e else dj e))
   |_=>none
  |none=>none
theorem dh{nt:Nat}{ρ:ap}{R:af}{a:Act}(h:RD nt ρ R a){all:Array Oper}{o:Oper}{c:BE}(hg:l4 all R o=some c):Region.wanted o (yielded all a.tmps)=c.den ρ:=by
 unfold l4 at hg
 unfold Region.wanted
 cases ho:o.guard with
 |none=>rw[ho]at hg;obtain rfl:=Option.some.inj hg;rfl
 |some p=>
  obtain⟨j,want⟩:=p
  rw[ho]at hg
  simp only at hg
  cases hd:(all[j]?).bind (·.dst)with
  |none=>rw[hd]at hg;cases hg
  |some d=>
   rw[hd]at hg
   simp only at hg
   split at hg
   ·rename_i c' e hl
    obtain rfl:=Option.some.inj hg
    have:=h.regs d c' (.b e) hl
    simp only[yielded,hd,Option.bind_some,this,pW]
    cases hc:c'.den ρ
    ·simp[undef]
    ·simp only[if_true,SV.den,Bool.true_and]
     cases want
     ·simp only[cond_false,cJ];cases e.den ρ<;>rfl
     ·simp only[cond_true];cases e.den ρ<;>rfl
   ·cases hg
theorem gd{lo hi:Nat}{e:BE}(h:e.avo lo hi=true):(dj e).avo lo hi=true:=by
 unfold dj;split
 ·rfl
 ·simp only[BE.avo]at h⊢;exact h
 ·simp only[BE.avo];exact h
theorem OW{lo hi:Nat}{a b:BE}(ha:a.avo lo hi=true)(hb:b.avo lo hi=true):(nU a b).avo lo hi=true:=by
 unfold nU;split<;>first|exact hb|exact ha|rfl|simp only[BE.avo,ha,hb,Bool.and_self]
theorem jM{n:Nat}{R:af}(h:af.avo n ay R=true){all:Array Oper}{o:Oper}{c:BE}(hg:l4 all R o=some c):c.avo n ay=true:=by
 unfold l4 at hg
 split at hg
 ·obtain rfl:=Option.some.inj hg;rfl
 ·split at hg
  ·split at hg
   ·rename_i c' e hl
    obtain rfl:=Option.some.inj hg
    have:=(af.al h hl).2
    simp only[aY.avo,SV.avo,Bool.and_eq_true]at this
    have h2:∀q:Bool,(bif q then e else dj e).avo n ay=true:=by
     intro q
     cases q
     ·exact gd this.2
     ·exact this.2
    exact OW this.1 (h2 _)
   ·cases hg
  ·cases hg
def jN(n:Nat):af→Bool
 |[]=>true
 |(.h id,_)::r=>Nat.ble n id&&(Nat.blt id ay&&jN n r)
 |_::_=>false
theorem l5{n:Nat}{k:aO}:∀{L:af},jN n L=true→∀{H:af} {e:aY},af.avo n ay H=true→ai k H=some e→ai k (L++H)=some e
 |[],_,H,e,_,h=>h
 |(.r t,f)::r,g,H,e,hH,h=>by cases g
 |(.h id,f)::r,g,H,e,hH,h=>by
  simp only[jN,Bool.and_eq_true]at g
  have h1:=Nat.le_of_ble_eq_true g.1
  have h2:id<ay:=Nat.le_of_ble_eq_true g.2.1
  rw[List.cons_append,ak,if_neg,l5 g.2.2 hH h]
  intro e'
  subst e'
  have:=aF (af.al hH h).1
  omega
def Cf(g:List F)(c:BE):Bool:=g.any fun f=>match f with|.be d=>d.eq c|_=>false
theorem Cg{ρ:ap}{g:List F}(hg:ar ρ g){c:BE}(h:Cf g c=true):c.den ρ=true:=by
 unfold Cf at h
 rw[List.any_eq_true]at h
 obtain⟨f,hf,h⟩:=h
 cases f with
 |be d=>have:=hg _ hf;rw[←BE.b8 _ _ h];exact this
 |rel _ _ _=>cases h
 |imp _ _=>cases h
def OX(g:List F)(c:BE):BE:=bif Cf g c then .lit true else bif Cf g (dj c)then .lit false else c
theorem l6{ρ:ap}{g:List F}(hg:ar ρ g)(c:BE):(OX g c).den ρ=c.den ρ:=by
 unfold OX
 cases h1:Cf g c
 ·cases h2:Cf g (dj c)
  ·rfl
  ·have:=Cg hg h2
   rw[cJ]at this
   simp only[cond_false,cond_true,BE.den]
   cases hc:c.den ρ
   ·rfl
   ·rw[hc]at this;cases this
 ·simp only[cond_true,BE.den,Cg hg h1]
theorem Ch{lo hi:Nat}{g:List F}{c:BE}(h:c.avo lo hi=true):(OX g c).avo lo hi=true:=by
 unfold OX
 cases Cf g c
 ·cases Cf g (dj c)
  ·exact h
  ·rfl
 ·rfl
def OY(g:List F)(c:BE):BE:=match c with
 |.lit b=> .lit b
 |c=>OX g c
theorem X7{ρ:ap}{g:List F}(hg:ar ρ g)(c:BE):(OY g c).den ρ=c.den ρ:=by
 unfold OY;split
 ·rfl
 ·exact l6 hg _
theorem X8{lo hi:Nat}{g:List F}{c:BE}(h:c.avo lo hi=true):(OY g c).avo lo hi=true:=by
 unfold OY;split
 ·rfl
 ·exact Ch h
def gF(P:Program)(call:aU)(nt:Nat)(amb:List F)(all:Array Oper):List Oper→Nat→Br→nf (Ex×Br)
 |[],n,b=>some ([],.lf (.normal,b),n)
 |o::r,n,b=>
  bif !(sU nt o.dst)then none else
  match l4 all b.R o with
  |none=>none
  |some (.lit false)=>gF P call nt amb all r n {b with R:=gO o.dst (.lit true) (.tup []) b.R}
  |some c0=>
  match OY b.pc c0 with
  |.lit false=>gF P call nt amb all r n {b with R:=gO o.dst c0 (.b (.lit false)) b.R}
  |.lit true=>
   match qL P call b.R b.H n (b.g++(b.pc++amb)) c0 o.op with
   |none=>none
   |some out=>
    match gR (fun(x:dt) n=>gF P call nt amb all r n ⟨x.fs++b.g,x.pc++b.pc,gO o.dst (.lit true) x.s b.R,x.pre++b.H,x.pre++b.pre⟩) out.t out.n with
    |none=>none
    |some (v,t,n')=>some (out.vcs++v,t,n')
  |c=>
   match qL P call b.R b.H n (.be c::(b.g++(b.pc++amb))) c o.op with
   |some ⟨vcs,.lf ⟨fs,[],s,pre⟩,n1⟩=>
    match(bif jN n pre then gF P call nt amb all r n1 {b with g:=fs.map (.imp c)++b.g,R:=gO o.dst c s b.R}else none)with
    |some (v,t,n')=>some (vcs++v,t,n')
    |none=>
     match gF P call nt amb all r n1 ⟨fs++b.g,.be c::b.pc,gO o.dst c s b.R,pre++b.H,pre++b.pre⟩with
     |none=>none
     |some (v1,t1,n2)=>
      match gF P call nt amb all r n2 {b with pc:=.be (dj c)::b.pc,R:=gO o.dst c s b.R}with
      |none=>none
      |some (v2,t2,n3)=>some (vcs++(v1++v2),.nd c t1 t2,n3)
   |_=>none
theorem uj.agr{C:bp}{nt lo hi:Nat}{base:af}{ρ σ:ap}{b:Br}{a:Act}{w:World}(h:uj C nt ρ b a w)(hw:b.ws base lo)(hagr:b7 lo hi ρ σ)(hh:hi≤ay):uj C nt σ b a w:=
 ⟨(aZ hagr (F.aq (Nat.le_refl _) hh hw.1)).2 h.g,(aZ hagr (F.aq (Nat.le_refl _) hh hw.2.1)).2 h.pc,h.hd.agr hagr (af.fU hw.2.2.2.1 hh),h.rd.agr hagr (af.fU hw.2.2.1 hh)⟩
def qB(C:bp)(nt:Nat)(ρ:ap)(x:Ex×Br)(e:Exit)(a:Act)(w:World):Prop:=e=x.1.to∧uj C nt ρ x.2 a w
theorem fj{P:Program}{call:aU}(hcall:bI P call)(hN:iS P){nt:Nat}{amb:List F}{all:Array Oper}{base:af}(C:bp):
 ∀(ops:List Oper) (n:Nat) (b:Br) (v:dU) (t:T (Ex×Br)) (n':Nat),gF P call nt amb all ops n b=some (v,t,n')→b.ws base n→F.avos n ay amb=true→n≤ay→
  n≤n'∧n'≤ay∧t.all n' (fun x=>x.2.ws base n')∧
  (ab v→∀ρ a w,ar ρ amb→uj C nt ρ b a w→j8 (fun Q=>wpListIn (FC Fm.ro) 9 P all Q ops a w) (qB C nt) ρ n n' t)
 |[],n,b,v,t,n',h,hw,ha,hn=>by
  simp only[gF,Option.some.injEq,Prod.mk.injEq]at h
  obtain⟨rfl,rfl,rfl⟩:=h
  exact⟨Nat.le_refl _,hn,hw,fun _ ρ a w hA hb Q hQ=>hQ .normal ρ a w (b7.refl _ _ _) ⟨rfl,hb⟩⟩
 |o::r,n,b,v,t,n',h,hw,ha,hn=>by
  simp only[gF]at h
  cases hd:sU nt o.dst
  ·simp only[hd,Bool.not_false,cond_true]at h;cases h
  simp only[hd,Bool.not_true,cond_false]at h
  split at h
  ·cases h
  ·rename_i hg
   obtain⟨h1,h2,h3,h4⟩:=fj hcall hN C r n _ v t n' h ⟨hw.1,hw.2.1,ja rfl rfl hw.2.2.1,hw.2.2.2.1,hw.2.2.2.2⟩ ha hn
   refine⟨h1,h2,h3,fun hv ρ a w hA hb Q hQ=>?_⟩
   have hwant:=dh hb.rd hg
   simp only[BE.den]at hwant
   show wpListIn (FC Fm.ro) 9 P all Q (o::r) a w
   simp only[wpListIn,hwant,Bool.false_eq_true,if_false]
   refine⟨fun _ _=>trivial,?_⟩
   exact h4 hv ρ _ w hA ⟨hb.g,hb.pc,hb.hd,hb.rd.put hd (.lit true) (.tup []) rfl⟩ Q hQ
  rename_i c0 hcf0 hg
  generalize hdc:OY b.pc c0=c at h
  have hden:∀ρ:ap,ar ρ b.pc→c0.den ρ=c.den ρ:=fun ρ hp=>by rw[←hdc,X7 hp]
  split at h
  ·obtain⟨h1,h2,h3,h4⟩:=fj hcall hN C r n _ v t n' h ⟨hw.1,hw.2.1,ja (jM hw.2.2.1 hg) rfl hw.2.2.1,hw.2.2.2.1,hw.2.2.2.2⟩ ha hn
   refine⟨h1,h2,h3,fun hv ρ a w hA hb Q hQ=>?_⟩
   have hwant:=dh hb.rd hg
   have hf:c0.den ρ=false:=hden ρ hb.pc
   rw[hf]at hwant
   show wpListIn (FC Fm.ro) 9 P all Q (o::r) a w
   simp only[wpListIn,hwant,Bool.false_eq_true,if_false]
   refine⟨fun _ _=>trivial,?_⟩
   exact h4 hv ρ _ w hA ⟨hb.g,hb.pc,hb.hd,hb.rd.put hd c0 (.b (.lit false)) (by rw[hf];rfl)⟩ Q hQ
  ·split at h
   ·cases h
   ·rename_i out hst
    split at h
    ·cases h
    ·rename_i v2 t2 n2 hbd
     simp only[Option.some.injEq,Prod.mk.injEq]at h
     obtain⟨rfl,rfl,rfl⟩:=h
     obtain⟨s1,s2,s3,s4⟩:=kZ (o:=o) hcall hN hst hw.2.2.1 hw.2.2.2.1 (F.bt hw.1 (F.bt hw.2.1 ha)) hn
     have key:∀(a':Act) (w':World) (vv:Value),∀(x:dt) (m:Nat) (v:dU) (t:T (Ex×Br)) (m':Nat),
      gF P call nt amb all r m ⟨x.fs++b.g,x.pc++b.pc,gO o.dst (.lit true) x.s b.R,x.pre++b.H,x.pre++b.pre⟩=some (v,t,m')→(out.n≤m∧x.ws m)→m≤ay→
      m≤m'∧m'≤ay∧t.all m' (fun x=>x.2.ws base m')∧(ab v→∀ρ',(ar ρ' x.fs∧ar ρ' x.pc∧vv=x.s.den ρ'∧HD C ρ' (x.pre++b.H) w'∧ar ρ' b.g∧ar ρ' b.pc∧RD nt ρ' b.R a'∧ar ρ' amb)→
       j8 (fun Q=>wpListIn (FC Fm.ro) 9 P all Q r (a'.put o.dst vv) w') (qB C nt) ρ' m m' t):=by
      intro a' w' vv x m v t m' hr hws hm
      have hwm:=Br.bh (show n≤m by omega) hw
      have hwx:(⟨x.fs++b.g,x.pc++b.pc,gO o.dst (.lit true) x.s b.R,x.pre++b.H,x.pre++b.pre⟩:Br).ws base m:=
       ⟨F.bt hws.2.1 hwm.1,F.bt hws.2.2.1 hwm.2.1,ja rfl hws.2.2.2.1 hwm.2.2.1,af.cH hws.2.2.2.2 hwm.2.2.2.1,by rw[hw.2.2.2.2,List.append_assoc]⟩
      obtain⟨h1,h2,h3,h4⟩:=fj hcall hN C r m _ v t m' hr hwx (F.aq (show n≤m by omega) (Nat.le_refl _) ha) hm
      refine⟨h1,h2,h3,fun hv ρ' hp=>?_⟩
      obtain⟨p1,p2,p3,p4,p5,p6,p7,p8⟩:=hp
      exact h4 hv ρ' _ w' p8 ⟨aA.2 ⟨p1,p5⟩,aA.2 ⟨p2,p6⟩,p4,p7.put hd (.lit true) x.s (by rw[p3];rfl)⟩
     have sall:out.t.all out.n (fun x=>out.n≤out.n∧x.ws out.n):=T.bo (Nat.le_refl _) (fun x hx=>⟨Nat.le_refl _,hx⟩) s3
     have base0:=fun(a':Act) (w':World) (vv:Value)=>gE (ws:=fun m (x:dt)=>out.n≤m∧x.ws m) (ws':=fun m (x:Ex×Br)=>x.2.ws base m)
      (fun _ _ x hnm hx=>⟨Nat.le_trans hx.1 hnm,dt.bh hnm hx.2⟩) (fun _ _ x hnm hx=>Br.bh hnm hx) (key a' w' vv) out.t out.n v2 t2 n2 hbd sall s2
     obtain⟨g1,g2,g3,_⟩:=base0 ⟨#[],[]⟩ C.w0 undef
     refine⟨by omega,g2,g3,fun hv ρ a w hA hb Q hQ=>?_⟩
     have hwant:=(dh hb.rd hg).trans (hden ρ hb.pc)
     simp only[BE.den]at hwant
     show wpListIn (FC Fm.ro) 9 P all Q (o::r) a w
     simp only[wpListIn,hwant,if_true]
     refine(s4 hv.app.1 C nt ρ a w (aA.2 ⟨hb.g,aA.2 ⟨hb.pc,hA⟩⟩) hb.hd hb.rd (hden ρ hb.pc) _ _ fun ρ' w' vv hagr hp=>?_)
     obtain⟨_,_,_,g4⟩:=base0 a w' vv
     have hb':=hb.agr hw hagr s2
     refine g4 hv.app.2 ρ' (T.bd (fun x hx=>⟨hx.1,hx.2.1,hx.2.2.1,hx.2.2.2,hb'.g,hb'.pc,hb'.rd,(aZ hagr (F.aq (Nat.le_refl _) s2 ha)).2 hA⟩) hp) Q fun e ρ'' a'' w'' hagr' hp'=>?_
     exact hQ e ρ'' a'' w'' (hagr.trans hagr' g1 (by omega)) hp'
  ·rename_i hcf hct
   have hca0:c.avo n ay=true:=by rw[←hdc];exact X8 (jM hw.2.2.1 hg)
   split at h
   ·rename_i vcs fs s pre n1 hst
    split at h
    ·rename_i v2 t2 n2 hr0
     cases hfk:jN n pre
     ·rw[hfk]at hr0;cases hr0
     ·rw[hfk]at hr0
      have hr:=hr0
      simp only[cond_true]at hr
      simp only[Option.some.injEq,Prod.mk.injEq]at h
      obtain⟨rfl,rfl,rfl⟩:=h
      have hca:=hca0
      have hgg:F.avos n ay (.be c::(b.g++(b.pc++amb)))=true:=by
       have:=F.bt hw.1 (F.bt hw.2.1 ha)
       simp only[F.avos,List.all_cons,F.avo,hca,Bool.true_and]at this⊢
       exact this
      obtain⟨s1,s2,s3,s4⟩:=kZ (o:=o) hcall hN hst hw.2.2.1 hw.2.2.2.1 hgg hn
      simp only at s1 s2 s3 s4
      have hca1:c.avo n1 ay=true:=BE.ad s1 (Nat.le_refl _) c hca
      have hw1:=Br.bh s1 hw
      have hwx:({b with g:=fs.map (.imp c)++b.g,R:=gO o.dst c s b.R}:Br).ws base n1:=by
       refine⟨F.bt ?_ hw1.1,hw1.2.1,ja hca1 s3.2.2.1 hw1.2.2.1,hw1.2.2.2.1,hw1.2.2.2.2⟩
       have:=s3.1
       simp only[F.avos,List.all_map,List.all_eq_true,Function.comp]at this⊢
       exact fun f hf=>by simp only[F.avo,hca1,this f hf,Bool.and_self]
      obtain⟨g1,g2,g3,g4⟩:=fj hcall hN C r n1 _ v2 t2 n2 hr hwx (F.aq s1 (Nat.le_refl _) ha) s2
      refine⟨by omega,g2,g3,fun hv ρ a w hA hb Q hQ=>?_⟩
      have hwant:=(dh hb.rd hg).trans (hden ρ hb.pc)
      show wpListIn (FC Fm.ro) 9 P all Q (o::r) a w
      simp only[wpListIn,hwant]
      cases hcd:c.den ρ
      ·simp only[Bool.false_eq_true,if_false]
       refine⟨fun _ _=>trivial,?_⟩
       refine g4 hv.app.2 ρ _ w hA ⟨aA.2 ⟨fun f hf=>?_,hb.g⟩,hb.pc,hb.hd,hb.rd.put hd c s (by rw[hcd];rfl)⟩ Q fun e ρ'' a'' w'' hagr' hp'=>hQ e ρ'' a'' w'' (hagr'.mono s1 (Nat.le_refl _)) hp'
       obtain⟨f',_,rfl⟩:=List.mem_map.1 hf
       intro hc;rw[hcd]at hc;cases hc
      ·simp only[if_true]
       have hgρ:ar ρ (.be c::(b.g++(b.pc++amb))):=aa.2 ⟨hcd,aA.2 ⟨hb.g,aA.2 ⟨hb.pc,hA⟩⟩⟩
       refine(s4 hv.app.1 C nt ρ a w hgρ hb.hd hb.rd hcd _ _ fun ρ' w' vv hagr hp=>?_)
       obtain⟨p1,p2,p3,p4⟩:=hp
       simp only at p1 p2 p3 p4
       have hb':=hb.agr hw hagr s2
       have hcd':c.den ρ'=true:=by rw[BE.ag hagr c (BE.ad (Nat.le_refl _) s2 c hca)];exact hcd
       refine g4 hv.app.2 ρ' _ w' ((aZ hagr (F.aq (Nat.le_refl _) s2 ha)).2 hA) ⟨aA.2 ⟨fun f hf=>?_,hb'.g⟩,hb'.pc,p4.sub fun id o r hl=>l5 hfk hw.2.2.2.1 hl,hb'.rd.put hd c s (by rw[hcd',p3];rfl)⟩ Q fun e ρ'' a'' w'' hagr' hp'=>hQ e ρ'' a'' w'' (hagr.trans hagr' g1 s1) hp'
       obtain⟨f',hf',rfl⟩:=List.mem_map.1 hf
       exact fun _=>p1 f' hf'
    ·split at h
     ·cases h
     ·rename_i v1 t1 n2 hr1
      split at h
      ·cases h
      ·rename_i v2 t2 n3 hr2
       simp only[Option.some.injEq,Prod.mk.injEq]at h
       obtain⟨rfl,rfl,rfl⟩:=h
       have hca:=hca0
       have hgg:F.avos n ay (.be c::(b.g++(b.pc++amb)))=true:=by
        have:=F.bt hw.1 (F.bt hw.2.1 ha)
        simp only[F.avos,List.all_cons,F.avo,hca,Bool.true_and]at this⊢
        exact this
       obtain⟨s1,s2,s3,s4⟩:=kZ (o:=o) hcall hN hst hw.2.2.1 hw.2.2.2.1 hgg hn
       simp only at s1 s2 s3 s4
       have hca1:c.avo n1 ay=true:=BE.ad s1 (Nat.le_refl _) c hca
       have hw1:=Br.bh s1 hw
       have pcs:∀{m:Nat} {d:BE},d.avo m ay=true→F.avos m ay b.pc=true→F.avos m ay (.be d::b.pc)=true:=by
        intro m d hd hp
        simp only[F.avos,List.all_cons,F.avo,hd,Bool.true_and]at hp⊢;exact hp
       have hR1:=ja (dst:=o.dst) hca1 s3.2.2.1 hw1.2.2.1
       have hwx:(⟨fs++b.g,.be c::b.pc,gO o.dst c s b.R,pre++b.H,pre++b.pre⟩:Br).ws base n1:=
        ⟨F.bt s3.1 hw1.1,pcs hca1 hw1.2.1,hR1,af.cH s3.2.2.2 hw1.2.2.2.1,by show pre++b.H=(pre++b.pre)++base;rw[hw.2.2.2.2,List.append_assoc]⟩
       obtain⟨g1,g2,g3,g4⟩:=fj hcall hN C r n1 _ v1 t1 n2 hr1 hwx (F.aq s1 (Nat.le_refl _) ha) s2
       have hw2:=Br.bh g1 hw1
       have hwy:({b with pc:=.be (dj c)::b.pc,R:=gO o.dst c s b.R}:Br).ws base n2:=
        ⟨hw2.1,pcs (gd (BE.ad g1 (Nat.le_refl _) c hca1)) hw2.2.1,af.ad g1 (Nat.le_refl _) _ hR1,hw2.2.2.2.1,hw2.2.2.2.2⟩
       obtain⟨k1,k2,k3,k4⟩:=fj hcall hN C r n2 _ v2 t2 n3 hr2 hwy (F.aq (show n≤n2 by omega) (Nat.le_refl _) ha) g2
       refine⟨by omega,k2,⟨BE.ad (show n≤n3 by omega) (Nat.le_refl _) c hca,T.bo k1 (fun z hz=>Br.bh k1 hz) g3,k3⟩,fun hv ρ a w hA hb Q hQ=>?_⟩
       have hsame:∀ρ',b7 n n3 ρ ρ'→c.den ρ'=c.den ρ:=fun ρ' hagr=>BE.ag hagr c (BE.ad (Nat.le_refl _) k2 c hca)
       have hwant:=(dh hb.rd hg).trans (hden ρ hb.pc)
       show wpListIn (FC Fm.ro) 9 P all Q (o::r) a w
       simp only[wpListIn,hwant]
       cases hcd:c.den ρ
       ·simp only[Bool.false_eq_true,if_false]
        refine⟨fun _ _=>trivial,?_⟩
        refine k4 hv.app.2.app.2 ρ _ w hA ⟨hb.g,aa.2 ⟨by simp only[F.holds,cJ,hcd];rfl,hb.pc⟩,hb.hd,hb.rd.put hd c s (by rw[hcd];rfl)⟩ Q fun e ρ'' a'' w'' hagr' hp'=>hQ e ρ'' a'' w'' (hagr'.mono (by omega) (Nat.le_refl _)) ?_
        simp only[T.post];rw[if_neg (by rw[hsame ρ'' (hagr'.mono (by omega) (Nat.le_refl _)),hcd];decide)];exact hp'
       ·simp only[if_true]
        have hgρ:ar ρ (.be c::(b.g++(b.pc++amb))):=aa.2 ⟨hcd,aA.2 ⟨hb.g,aA.2 ⟨hb.pc,hA⟩⟩⟩
        refine(s4 hv.app.1 C nt ρ a w hgρ hb.hd hb.rd hcd _ _ fun ρ' w' vv hagr hp=>?_)
        obtain⟨p1,p2,p3,p4⟩:=hp
        simp only at p1 p2 p3 p4
        have hb':=hb.agr hw hagr s2
        have hcd':c.den ρ'=true:=by rw[BE.ag hagr c (BE.ad (Nat.le_refl _) s2 c hca)];exact hcd
        refine g4 hv.app.2.app.1 ρ' _ w' ((aZ hagr (F.aq (Nat.le_refl _) s2 ha)).2 hA) ⟨aA.2 ⟨p1,hb'.g⟩,aa.2 ⟨hcd',hb'.pc⟩,p4,hb'.rd.put hd c s (by rw[hcd',p3];rfl)⟩ Q fun e ρ'' a'' w'' hagr' hp'=>hQ e ρ'' a'' w'' (hagr.trans (hagr'.mono (Nat.le_refl _) k1) (show n1≤n3 by omega) s1) ?_
        simp only[T.post];rw[if_pos (by rw[hsame ρ'' (hagr.trans (hagr'.mono (Nat.le_refl _) k1) (show n1≤n3 by omega) s1)];exact hcd)];exact hp'
   ·cases h
end
section
variable [cg] [Fm]
def T.map{α β:Type}(f:α→β):T α→T β
 |.lf x=> .lf (f x)
 |.nd c a b=> .nd c (a.map f) (b.map f)
 |.or a b=> .or (a.map f) (b.map f)
 |.no=> .no
theorem T.l7{α β:Type}{f:α→β}{ρ:ap}{p:β→Prop}:∀{t:T α},(t.map f).post ρ p↔t.post ρ fun x=>p (f x)
 |.lf x=>Iff.rfl
 |.nd c a b=>by
  simp only[T.map,T.post]
  split
  ·exact T.l7
  ·exact T.l7
 |.or a b=>by simp only[T.map,T.post,T.l7]
 |.no=>Iff.rfl
theorem T.all_map{α β:Type}{f:α→β}{n:Nat}{p:β→Prop}:∀{t:T α},t.all n (fun x=>p (f x))→(t.map f).all n p
 |.lf x,h=>h
 |.nd c a b,h=>⟨h.1,T.all_map h.2.1,T.all_map h.2.2⟩
 |.or a b,h=>⟨T.all_map h.1,T.all_map h.2⟩
 |.no,_=>trivial
def eA(id:Nat)(z:Ex×Br):Ex×Br:=
 match z.1 with
 |.exit j=>bif Nat.beq j id then(.normal,z.2)else z
 |_=>z
def sV(k:Nat→Br→nf (Ex×Br))(z:Ex×Br)(n:Nat):nf (Ex×Br):=
 match z.1 with
 |.normal=>k n z.2
 |.exit j=>some ([],.lf (.exit j,z.2),n)
 |.ret=>some ([],.lf (.ret,z.2),n)
def andThen(x:nf (Ex×Br))(k:Nat→Br→nf (Ex×Br)):nf (Ex×Br):=
 match x with
 |some (v,t,n1)=>match gR (sV k) t n1 with
  |some (v2,t2,n2)=>some (v++v2,t2,n2)
  |none=>none
 |none=>none
def lJ(body:Nat→Br→nf (Ex×Br)):Nat→Nat→Br→nf (Ex×Br)
 |0,_,_=>none
 |k+1,n,b=>andThen (body n b) (lJ body k)
abbrev eK:=Array Oper→Nat→Br→List F→Nat→nf (Ex×Br)
abbrev dG:=Code→(Nat→Br→nf (Ex×Br))→List F→Nat→Br→nf (Ex×Br)
def fk(P:Program)(call:aU)(dr:eK)(lp:dG)(nt:Nat)(amb:List F):Code→Nat→Br→nf (Ex×Br)
 |.skip,n,b=>some ([],.lf (.normal,b),n)
 |.label _,n,b=>some ([],.lf (.normal,b),n)
 |.exit id,n,b=>some ([],.lf (.exit id,b),n)
 |.ret,n,b=>some ([],.lf (.ret,b),n)
 |.region _ ops draw,n,b=>bif draw then dr ops n b amb nt else gF P call nt amb ops ops.toList n b
 |.seq x y,n,b=>andThen (fk P call dr lp nt amb x n b) (fun n b=>fk P call dr lp nt amb y n b)
 |.cond q x y,n,b=>
  match ep b.R (.lit true) q with
  |some (.b (.lit true))=>fk P call dr lp nt amb x n b
  |some (.b (.lit false))=>fk P call dr lp nt amb y n b
  |some (.b c)=>
   match fk P call dr lp nt amb x n {b with pc:=.be c::b.pc}with
   |some (v1,t1,n1)=>match fk P call dr lp nt amb y n1 {b with pc:=.be (dj c)::b.pc}with
    |some (v2,t2,n2)=>some (v1++v2,.nd c t1 t2,n2)
    |none=>none
   |none=>none
  |_=>none
 |.block id x,n,b=>match fk P call dr lp nt amb x n b with
  |some (v,t,n')=>some (v,t.map (eA id),n')
  |none=>none
 |.scope x,n,b=>fk P call dr lp nt amb x n b
 |.loop x,n,b=>lp x (fun n b=>fk P call dr lp nt amb x n b) amb n b
 |_,_,_=>none
def MY(base:af)(C:bp)(nt:Nat)(amb:List F)(code:Act→World→(Exit→Act→World→Prop)→Prop)(n:Nat)(b:Br)(v:dU)(t:T (Ex×Br))(n':Nat):Prop:=
 n≤n'∧n'≤ay∧t.all n' (fun x=>x.2.ws base n')∧
  (ab v→∀ρ a w,ar ρ amb→uj C nt ρ b a w→j8 (fun Q=>code a w Q) (qB C nt) ρ n n' t)
def rI(base:af)(C:bp)(nt:Nat)(amb:List F)(n0:Nat)(code:Act→World→(Exit→Act→World→Prop)→Prop)(k:Nat→Br→nf (Ex×Br)):Prop:=
 ∀(n:Nat) (b:Br) (v:dU) (t:T (Ex×Br)) (n':Nat),k n b=some (v,t,n')→n0≤n→b.ws base n→n≤ay→MY base C nt amb code n b v t n'
theorem andThen_ok{base:af}{C:bp}{nt:Nat}{amb:List F}{n0:Nat}(hamb:F.avos n0 ay amb=true){code1 code2:Act→World→(Exit→Act→World→Prop)→Prop}{k:Nat→Br→nf (Ex×Br)}
 (hk:rI base C nt amb n0 code2 k) {n:Nat} (hn0:n0≤n) {b:Br} {x:nf (Ex×Br)} (hx:∀v t n',x=some (v,t,n')→MY base C nt amb code1 n b v t n') {v:dU} {t:T (Ex×Br)} {n':Nat} (h:andThen x k=some (v,t,n')):
 MY base C nt amb (fun a w Q=>code1 a w (Exit.then (fun a' w'=>code2 a' w' Q) Q)) n b v t n':=by
 unfold andThen at h
 split at h
 ·rename_i v1 t1 n1
  split at h
  ·rename_i v2 t2 n2 h2
   simp only[Option.some.injEq,Prod.mk.injEq]at h
   obtain⟨rfl,rfl,rfl⟩:=h
   obtain⟨a1,a2,a3,a4⟩:=hx v1 t1 n1 rfl
   have key:∀(e:Exit) (a':Act) (w':World) (z:Ex×Br) (m:Nat) (v:dU) (t:T (Ex×Br)) (m':Nat),sV k z m=some (v,t,m')→(n1≤m∧z.2.ws base m)→m≤ay→
    m≤m'∧m'≤ay∧t.all m' (fun x=>x.2.ws base m')∧(ab v→∀ρ,(qB C nt ρ z e a' w'∧ar ρ amb)→j8 (fun Q=>Exit.then (fun a' w'=>code2 a' w' Q) Q e a' w') (qB C nt) ρ m m' t):=by
    intro e a' w' z m v t m' hr hws hm
    obtain⟨ze,zb⟩:=z
    cases ze with
    |normal=>
     obtain⟨b1,b2,b3,b4⟩:=hk m zb v t m' hr (by omega) hws.2 hm
     exact⟨b1,b2,b3,fun hv ρ hp Q hQ=>by obtain⟨⟨rfl,hb⟩,hA⟩:=hp;exact b4 hv ρ a' w' hA hb Q hQ⟩
    |exit j=>
     simp only[sV,Option.some.injEq,Prod.mk.injEq]at hr
     obtain⟨rfl,rfl,rfl⟩:=hr
     exact⟨Nat.le_refl _,hm,hws.2,fun _ ρ hp Q hQ=>by obtain⟨⟨rfl,hb⟩,hA⟩:=hp;exact hQ _ ρ a' w' (b7.refl _ _ _) ⟨rfl,hb⟩⟩
    |ret=>
     simp only[sV,Option.some.injEq,Prod.mk.injEq]at hr
     obtain⟨rfl,rfl,rfl⟩:=hr
     exact⟨Nat.le_refl _,hm,hws.2,fun _ ρ hp Q hQ=>by obtain⟨⟨rfl,hb⟩,hA⟩:=hp;exact hQ _ ρ a' w' (b7.refl _ _ _) ⟨rfl,hb⟩⟩
   have all1:t1.all n1 (fun z=>n1≤n1∧z.2.ws base n1):=T.bo (Nat.le_refl _) (fun z hz=>⟨Nat.le_refl _,hz⟩) a3
   have base0:=fun(e:Exit) (a':Act) (w':World)=>gE (ws:=fun m (z:Ex×Br)=>n1≤m∧z.2.ws base m) (ws':=fun m (z:Ex×Br)=>z.2.ws base m)
    (fun _ _ z hnm hz=>⟨Nat.le_trans hz.1 hnm,Br.bh hnm hz.2⟩) (fun _ _ z hnm hz=>Br.bh hnm hz) (key e a' w') t1 n1 v2 t2 n2 h2 all1 a2
   obtain⟨g1,g2,g3,_⟩:=base0 .normal ⟨#[],[]⟩ C.w0
   refine⟨by omega,g2,g3,fun hv ρ a w hA hb Q hQ=>?_⟩
   refine a4 hv.app.1 ρ a w hA hb _ fun e ρ' a' w' hagr hp=>?_
   obtain⟨_,_,_,g4⟩:=base0 e a' w'
   have hA':=(aZ hagr (F.aq hn0 a2 hamb)).2 hA
   refine g4 hv.app.2 ρ' (T.bd (fun z hz=>⟨hz,hA'⟩) hp) Q fun e' ρ'' a'' w'' hagr' hp'=>?_
   exact hQ e' ρ'' a'' w'' (hagr.trans hagr' g1 (by omega)) hp'
  ·cases h
 ·cases h
theorem sW{P:Program}{base:af}{C:bp}{nt:Nat}{amb:List F}{n0:Nat}(hamb:F.avos n0 ay amb=true){c:Code}{body:Nat→Br→nf (Ex×Br)}(hb:rI base C nt amb n0 (fun a w Q=>c.wpIn (FC Fm.ro) 9 P Q a w) body):
 ∀k,rI base C nt amb n0 (fun a w Q=>Code.roundsIn (FC Fm.ro) 9 P c Q k a w) (lJ body k)
 |0=>fun n b v t n' h=>by simp only[lJ]at h;cases h
 |k+1=>fun n b v t n' h hn0 hws hn=>andThen_ok hamb (sW hamb hb k) hn0 (fun v t n' hx=>hb n b v t n' hx hn0 hws hn) h
def rJ(P:Program)(dr:eK):Prop:=
 ∀(id:Nat) (ops:Array Oper) (base:af) (C:bp) (nt:Nat) (amb:List F) (n:Nat) (b:Br) (v:dU) (t:T (Ex×Br)) (n':Nat),dr ops n b amb nt=some (v,t,n')→F.avos n ay amb=true→b.ws base n→n≤ay→
  MY base C nt amb (fun a w Q=>(Code.region id ops true).wpIn (FC Fm.ro) 9 P Q a w) n b v t n'
def rK(P:Program)(lp:dG):Prop:=
 ∀(base:af) (C:bp) (nt:Nat) (amb:List F) (n0:Nat),F.avos n0 ay amb=true→∀(c:Code) (body:Nat→Br→nf (Ex×Br)),
  rI base C nt amb n0 (fun a w Q=>c.wpIn (FC Fm.ro) 9 P Q a w) body→rI base C nt amb n0 (fun a w Q=>(Code.loop c).wpIn (FC Fm.ro) 9 P Q a w) (lp c body amb)
def abi(U:Nat):dG:=fun _ body _=>lJ body U
theorem lK(P:Program)(U:Nat):rK P (abi U):=fun base C nt amb n0 hamb c body hb n b v t n' h hn0 hws hn=>by
 obtain⟨a1,a2,a3,a4⟩:=sW hamb hb U n b v t n' h hn0 hws hn
 exact⟨a1,a2,a3,fun hv ρ a w hA hb Q hQ=>wpIn_loop_rounds U (a4 hv ρ a w hA hb Q hQ)⟩
theorem fA{P:Program}{b:Frame}{a:Act}{k:List Item}{cs:List Frame}{w:World}{c:Code}:step P (lone (b.atR a (.code (.scope c)::k)) cs w)=.next (lone (b.atR a (.code c::.inScope c::k)) cs w):=
 step_lone_go (by simp[stepG,stepG.exec,Frame.atR])
theorem uk{P:Program}{b:Frame}{a:Act}{k:List Item}{cs:List Frame}{w:World}{c:Code}:step P (lone (b.atR a (.inScope c::k)) cs w)=.next (lone (b.atR a k) cs w):=
 step_lone_go (by simp[stepG,stepG.exec,Frame.atR])
theorem n6{F:Fence}{n:Nat}{P:Program}{Q:Exit→Act→World→Prop}{a:Act}{w:World}{c:Code}(h:c.wpIn F n P (Exit.noGoto Q) a w):(Code.scope c).wpIn F n P Q a w:=by
 intro b k cs hro hb hr
 have h0:(lone (b.atR a (.code (.scope c)::k)) cs w).fenced P F:=fenced_calm hb hr rfl
 obtain⟨e,a₁,w₁,hq,harr⟩:=h b (.inScope c::k) cs hro hb hr
 have hx:∀id,exitTo id (.inScope c::k)=exitTo id k:=fun id=>by simp[exitTo]
 cases e with
 |normal=>exact⟨.normal,a₁,w₁,hq,.head h0 fA (StepsIn.trans harr (.one (fenced_calm hb hr rfl) uk))⟩
 |exit id=>
  refine⟨.exit id,a₁,w₁,hq,.of_steps (.one h0 fA) ⟨fun k' hk=>harr.1 k' (by rw[hx];exact hk),fun hr' hk=>harr.2 hr' (by rw[hx];exact hk)⟩⟩
 |goto l=>exact hq.elim
 |ret=>exact⟨_,a₁,w₁,hq,.of_steps (.one h0 fA) harr⟩
 |panic ch=>exact⟨_,a₁,w₁,hq,.of_steps (.one h0 fA) harr⟩
 |outgrown=>exact⟨_,a₁,w₁,hq,.of_steps (.one h0 fA) harr⟩
theorem wT{P:Program}{call:aU}(hcall:bI P call)(hN:iS P){dr:eK}(hdr:rJ P dr){lp:dG}(hlp:rK P lp){nt:Nat}{amb:List F}{base:af}(C:bp){n0:Nat}(hamb:F.avos n0 ay amb=true):
 ∀c:Code,rI base C nt amb n0 (fun a w Q=>c.wpIn (FC Fm.ro) 9 P Q a w) (fk P call dr lp nt amb c):=by
 intro c
 induction c with
 |skip=>
  intro n b v t n' h hn0 hws hn
  simp only[fk,Option.some.injEq,Prod.mk.injEq]at h;obtain⟨rfl,rfl,rfl⟩:=h
  exact⟨Nat.le_refl _,hn,hws,fun _ ρ a w hA hb Q hQ=>wpIn_skip (hQ _ ρ a w (b7.refl _ _ _) ⟨rfl,hb⟩)⟩
 |label l=>
  intro n b v t n' h hn0 hws hn
  simp only[fk,Option.some.injEq,Prod.mk.injEq]at h;obtain⟨rfl,rfl,rfl⟩:=h
  exact⟨Nat.le_refl _,hn,hws,fun _ ρ a w hA hb Q hQ=>wpIn_label (hQ _ ρ a w (b7.refl _ _ _) ⟨rfl,hb⟩)⟩
 |exit id=>
  intro n b v t n' h hn0 hws hn
  simp only[fk,Option.some.injEq,Prod.mk.injEq]at h;obtain⟨rfl,rfl,rfl⟩:=h
  exact⟨Nat.le_refl _,hn,hws,fun _ ρ a w hA hb Q hQ=>wpIn_exit (hQ _ ρ a w (b7.refl _ _ _) ⟨rfl,hb⟩)⟩
 |ret=>
  intro n b v t n' h hn0 hws hn
  simp only[fk,Option.some.injEq,Prod.mk.injEq]at h;obtain⟨rfl,rfl,rfl⟩:=h
  exact⟨Nat.le_refl _,hn,hws,fun _ ρ a w hA hb Q hQ=>wpIn_ret (hQ _ ρ a w (b7.refl _ _ _) ⟨rfl,hb⟩)⟩
 |region id ops draw=>
  intro n b v t n' h hn0 hws hn
  simp only[fk]at h
  have ha:=F.aq hn0 (Nat.le_refl _) hamb
  cases draw
  ·simp only[cond_false]at h
   obtain⟨a1,a2,a3,a4⟩:=fj hcall hN C ops.toList n b v t n' h hws ha hn
   exact⟨a1,a2,a3,fun hv ρ a w hA hb Q hQ=>wpIn_region_list (a4 hv ρ a w hA hb Q hQ)⟩
  ·simp only[cond_true]at h
   exact hdr id ops base C nt amb n b v t n' h ha hws hn
 |seq x y ihx ihy=>
  intro n b v t n' h hn0 hws hn
  simp only[fk]at h
  have:=andThen_ok (code1:=fun a w Q=>x.wpIn (FC Fm.ro) 9 P Q a w) (code2:=fun a w Q=>y.wpIn (FC Fm.ro) 9 P Q a w) hamb ihy hn0 (fun v t n' hx=>ihx n b v t n' hx hn0 hws hn) h
  obtain⟨a1,a2,a3,a4⟩:=this
  exact⟨a1,a2,a3,fun hv ρ a w hA hb Q hQ=>wpIn_seq (a4 hv ρ a w hA hb Q hQ)⟩
 |cond q x y ihx ihy=>
  intro n b v t n' h hn0 hws hn
  simp only[fk]at h
  split at h
  ·rename_i hq
   obtain⟨a1,a2,a3,a4⟩:=ihx n b v t n' h hn0 hws hn
   exact⟨a1,a2,a3,fun hv ρ a w hA hb Q hQ=>wpIn_cond_true (by rw[az hb.rd (c:=.lit true) rfl hq];rfl) (a4 hv ρ a w hA hb Q hQ)⟩
  ·rename_i hq
   obtain⟨a1,a2,a3,a4⟩:=ihy n b v t n' h hn0 hws hn
   exact⟨a1,a2,a3,fun hv ρ a w hA hb Q hQ=>wpIn_cond_false (by rw[az hb.rd (c:=.lit true) rfl hq];rfl) (a4 hv ρ a w hA hb Q hQ)⟩
  ·rename_i c _ _ hq
   split at h
   ·rename_i v1 t1 n1 h1
    split at h
    ·rename_i v2 t2 n2 h2
     simp only[Option.some.injEq,Prod.mk.injEq]at h
     obtain⟨rfl,rfl,rfl⟩:=h
     have hca:=MX hws.2.2.1 hq
     simp only[SV.avo]at hca
     have pcs:∀{d:BE},d.avo n ay=true→F.avos n ay (.be d::b.pc)=true:=by
      intro d hd
      have:=hws.2.1
      simp only[F.avos,List.all_cons,F.avo,hd,Bool.true_and]at this⊢;exact this
     obtain⟨a1,a2,a3,a4⟩:=ihx n _ v1 t1 n1 h1 hn0 ⟨hws.1,pcs hca,hws.2.2.1,hws.2.2.2.1,hws.2.2.2.2⟩ hn
     obtain⟨b1,b2,b3,b4⟩:=ihy n1 _ v2 t2 n2 h2 (by omega) (Br.bh (b:={b with pc:=.be (dj c)::b.pc}) a1 ⟨hws.1,pcs (gd hca),hws.2.2.1,hws.2.2.2.1,hws.2.2.2.2⟩) a2
     refine⟨by omega,b2,⟨BE.ad (by omega) (Nat.le_refl _) c hca,T.bo b1 (fun z hz=>Br.bh b1 hz) a3,b3⟩,fun hv ρ a w hA hb Q hQ=>?_⟩
     have hsame:∀ρ',b7 n n2 ρ ρ'→c.den ρ'=c.den ρ:=fun ρ' hagr=>BE.ag hagr c (BE.ad (Nat.le_refl _) b2 c hca)
     refine wpIn_cond_split (by rw[az hb.rd (c:=.lit true) rfl hq];rfl) (fun hc=>?_) (fun hc=>?_)
     ·have hb':uj C nt ρ {b with pc:=.be c::b.pc} a w:=⟨hb.g,aa.2 ⟨hc,hb.pc⟩,hb.hd,hb.rd⟩
      refine a4 hv.app.1 ρ a w hA hb' Q fun e ρ' a' w' hagr hp=>hQ e ρ' a' w' (hagr.mono (Nat.le_refl _) b1) ?_
      simp only[T.post];rw[if_pos (by rw[hsame ρ' (hagr.mono (Nat.le_refl _) b1)];exact hc)];exact hp
     ·have hb':uj C nt ρ {b with pc:=.be (dj c)::b.pc} a w:=⟨hb.g,aa.2 ⟨by simp only[F.holds,cJ];rw[hc];rfl,hb.pc⟩,hb.hd,hb.rd⟩
      refine b4 hv.app.2 ρ a w hA hb' Q fun e ρ' a' w' hagr hp=>hQ e ρ' a' w' (hagr.mono a1 (Nat.le_refl _)) ?_
      simp only[T.post];rw[if_neg (by rw[hsame ρ' (hagr.mono a1 (Nat.le_refl _)),hc];decide)];exact hp
    ·cases h
   ·cases h
  ·cases h
 |block id x ih=>
  intro n b v t n' h hn0 hws hn
  simp only[fk]at h
  split at h
  ·rename_i v1 t1 n1 h1
   simp only[Option.some.injEq,Prod.mk.injEq]at h
   obtain⟨rfl,rfl,rfl⟩:=h
   obtain⟨a1,a2,a3,a4⟩:=ih n b v1 t1 n1 h1 hn0 hws hn
   have hbr:∀z:Ex×Br,(eA id z).2=z.2:=by
    intro z;unfold eA;split
    ·rename_i j _;cases Nat.beq j id<;>rfl
    ·rfl
   refine⟨a1,a2,T.all_map (T.bo (Nat.le_refl _) (fun z hz=>by rw[hbr z];exact hz) a3),fun hv ρ a w hA hb Q hQ=>wpIn_block ?_⟩
   refine a4 hv ρ a w hA hb _ fun e ρ' a' w' hagr hp=>?_
   have hex:∀z:Ex×Br,∀e',e'=z.1.to→(∀Q:Exit→Act→World→Prop,Q (eA id z).1.to a' w'→Exit.inBlock id Q e' a' w'):=by
    intro z e' he Q hq
    subst he
    obtain⟨ze,zb⟩:=z
    cases ze with
    |normal=>exact hq
    |ret=>exact hq
    |exit j=>
     simp only[Ex.to,Exit.inBlock]
     simp only[eA]at hq
     by_cases hj:j=id
     ·subst hj
      simp only[Nat.beq_refl,cond_true,Ex.to]at hq
      rw[if_pos rfl];exact hq
     ·have:Nat.beq j id=false:=by
       cases hh:Nat.beq j id
       ·rfl
       ·exact absurd (Nat.eq_of_beq_eq_true hh) hj
      simp only[this,cond_false,Ex.to]at hq
      rw[if_neg hj];exact hq
   have hpost:∀t:T (Ex×Br),(t.post ρ' fun z=>qB C nt ρ' z e a' w')→(∀e',((t.map (eA id)).post ρ' fun z=>qB C nt ρ' z e' a' w')→Q e' a' w')→Exit.inBlock id Q e a' w':=by
    intro t
    induction t with
    |lf z=>
     intro hz hall
     refine hex z e hz.1 Q (hall _ ?_)
     simp only[T.map,T.post]
     exact⟨rfl,by rw[hbr z];exact hz.2⟩
    |nd c x y ihx ihy=>
     intro hz hall
     simp only[T.post,T.map]at hz hall
     split at hz
     ·rename_i hc;exact ihx hz (fun e' he'=>hall e' (by rw[if_pos hc];exact he'))
     ·rename_i hc;exact ihy hz (fun e' he'=>hall e' (by rw[if_neg hc];exact he'))
    |or x y ihx ihy=>
     intro hz hall
     rcases hz with hz|hz
     ·exact ihx hz (fun e' he'=>hall e' (.inl he'))
     ·exact ihy hz (fun e' he'=>hall e' (.inr he'))
    |no=>exact fun hz _=>hz.elim
   exact hpost t1 hp fun e' he'=>hQ e' ρ' a' w' hagr he'
  ·cases h
 |loop x ih=>
  intro n b v t n' h hn0 hws hn
  simp only[fk]at h
  exact hlp base C nt amb n0 hamb x _ ih n b v t n' h hn0 hws hn
 |scope x ih=>
  intro n b v t n' h hn0 hws hn
  simp only[fk]at h
  obtain⟨a1,a2,a3,a4⟩:=ih n b v t n' h hn0 hws hn
  refine⟨a1,a2,a3,fun hv ρ a w hA hb Q hQ=>n6 (a4 hv ρ a w hA hb _ fun e ρ' a' w' hagr hp=>?_)⟩
  have hno:∃z:Ex×Br,e=z.1.to:=by
   have:∀t:T (Ex×Br),(t.post ρ' fun z=>qB C nt ρ' z e a' w')→∃z:Ex×Br,e=z.1.to:=by
    intro t
    induction t with
    |lf z=>exact fun hz=>⟨z,hz.1⟩
    |nd c x y ihx ihy=>intro hz;simp only[T.post]at hz;split at hz;exact ihx hz;exact ihy hz
    |or x y ihx ihy=>exact fun hz=>hz.elim ihx ihy
    |no=>exact fun hz=>hz.elim
   exact this t hp
  obtain⟨⟨ze,zb⟩,rfl⟩:=hno
  cases ze<;>exact hQ _ ρ' a' w' hagr hp
 |_=>intro n b v t n' h;simp only[fk]at h;cases h
end
section
variable [cg] [Fm]
def ul(P:Program)(R H:af):List ResultVar→Option (List F×List SV)
 |[]=>some ([],[])
 |.tmp t::r=>match ep R (.lit true) (.tmp t),ul P R H r with
  |some s,some (v,l)=>some (v,s::l)
  |_,_=>none
 |.cell x t::r=>match ep R (.lit true) (.tmp x),ul P R H r with
  |some s,some (v,l)=>match uL P H t s with
   |some (u,y)=>some (u++v,y::l)
   |none=>none
  |_,_=>none
def od:List SV→SV
 |[s]=>s
 |l=> .tup l
theorem sX{P:Program}{C:bp}{nt:Nat}{ρ:ap}{R H:af}{a:Act}{w:World}(HH:HD C ρ H w)(RR:RD nt ρ R a):∀{rs:List ResultVar} {v:List F} {l:List SV},ul P R H rs=some (v,l)→ar ρ v→
 (rs.mapM (m:=Sem) fun
   |.tmp t=>pure (a.tmps.getD t undef)
   |.cell x t=>do loadVar t (←asAddr (a.tmps.getD x undef))).run P w=.ok (l.map (SV.den ρ)) w
 |[],v,l,h,hv=>by simp only[ul,Option.some.injEq,Prod.mk.injEq]at h;obtain⟨rfl,rfl⟩:=h;simp
 |.tmp t::r,v,l,h,hv=>by
  simp only[ul]at h
  split at h
  ·rename_i s v' l' h1 h2
   simp only[Option.some.injEq,Prod.mk.injEq]at h;obtain⟨rfl,rfl⟩:=h
   have e1:=az RR (c:=.lit true) rfl h1
   simp only[Act.eval]at e1
   simp only[List.mapM_cons,Sem.run_bind,Sem.run_pure,Result.andThen_ok,sX HH RR h2 hv,e1,List.map_cons]
  ·cases h
 |.cell x t::r,v,l,h,hv=>by
  simp only[ul]at h
  split at h
  ·rename_i s v' l' h1 h2
   split at h
   ·rename_i u y hy
    simp only[Option.some.injEq,Prod.mk.injEq]at h;obtain⟨rfl,rfl⟩:=h
    have e1:=az RR (c:=.lit true) rfl h1
    simp only[Act.eval]at e1
    have hl:=lD HH hy (aA.1 hv).1
    have hp:∃p,s=.ptr p:=by
     unfold uL at hy
     split at hy
     ·exact⟨_,rfl⟩
     ·exact⟨_,rfl⟩
     ·cases hy
    obtain⟨p,rfl⟩:=hp
    simp only[SV.den,Instr.loadAt,Instr.sureAddr,Sem.run_bind,Sem.run_pure,Result.andThen_ok]at hl
    have hadr:(asAddr (a.tmps.getD x undef)).run P w=.ok (p.addr ρ) w:=by rw[e1];rfl
    simp only[List.mapM_cons,Sem.run_bind,hadr,Sem.run_pure,Result.andThen_ok,hl,sX HH RR h2 (aA.1 hv).2,List.map_cons]
   ·cases h
  ·cases h
theorem qM{P:Program}{C:bp}{nt:Nat}{ρ:ap}{R H:af}{a:Act}{w:World}(HH:HD C ρ H w)(RR:RD nt ρ R a){fn:Func}{v:List F}{l:List SV}(h:ul P R H fn.results.toList=some (v,l))(hv:ar ρ v):
 (results fn a.tmps).run P w=.ok ((od l).den ρ) w:=by
 have h1:=sX HH RR h hv
 have h2:(fn.results.mapM (m:=Sem) fun
  |.tmp t=>pure (a.tmps.getD t undef)
  |.cell x t=>do loadVar t (←asAddr (a.tmps.getD x undef))).run P w=.ok (l.map (SV.den ρ)).toArray w:=by
  rw[←Array.toArray_toList (xs:=fn.results),List.mapM_toArray]
  simp only[Sem.run_map,h1,Result.andThen_ok]
 unfold results
 rw[Sem.run_bind]
 refine(congrArg (fun r=>Result.andThen r _) h2).trans ?_
 simp only[Result.andThen_ok,Sem.run_pure,List.size_toArray,List.length_map]
 cases l with
 |nil=>simp[od,SV.den,SV.dens]
 |cons s r=>cases r with
  |nil=>simp[od]
  |cons s' r=>simp[od,SV.den,SV.b9,SV.dens]
def fin(P:Program)(fn:Func)(amb:List F)(z:Ex×Br)(n:Nat):nf dt:=
 match z.1 with
 |.exit _=>none
 |_=>match ul P z.2.R z.2.H fn.results.toList with
  |some (v,l)=>bif (od l).avo n ay then some (v.map fun f=>(z.2.g++(z.2.pc++amb),f),.lf ⟨z.2.g,[],od l,z.2.pre⟩,n)else none
  |none=>none
def Ci(n:Nat)(k:aO):Bool:=
 match k with
 |.r _=>true
 |.h id=>!(Nat.ble n id&&Nat.blt id ay)
def oe(n n':Nat)(x:dt):dt:=
 let k:=x.pre.filter fun e=>Ci n e.1
 bif x.s.avo n n'&&af.avo n n' k then{x with pre:=k}else x
theorem l8{n:Nat}{k:aO}:∀{L H:af} {e:aY},af.avo n ay H=true→ai k (L.filter (fun e=>Ci n e.1)++H)=some e→ai k (L++H)=some e
 |[],H,e,hH,h=>h
 |(j,f)::L,H,e,hH,h=>by
  by_cases hj:Ci n j=true
  ·rw[List.filter_cons_of_pos (by exact hj),List.cons_append,ak]at h
   rw[List.cons_append,ak]
   by_cases hk:j=k
   ·rw[if_pos hk]at h⊢;exact h
   ·rw[if_neg hk]at h⊢;exact l8 hH h
  ·rw[List.filter_cons_of_neg (by exact hj)]at h
   have h':=l8 hH h
   rw[List.cons_append,ak,if_neg]
   ·exact h'
   ·intro e'
    subst e'
    have hno:∀M:af,ai j (M.filter (fun e=>Ci n e.1)++H)=ai j H:=by
     intro M
     induction M with
     |nil=>rfl
     |cons x M ih=>
      by_cases hx:Ci n x.1=true
      ·rw[List.filter_cons_of_pos (by exact hx),List.cons_append]
       rw[show x=(x.1,x.2)from rfl,ak,if_neg (fun e=>by rw[←e]at hj;exact hj hx)]
       exact ih
      ·rw[List.filter_cons_of_neg (by exact hx)];exact ih
    rw[hno]at h
    have hav:=(af.al hH h).1
    cases j with
    |r t=>exact hj rfl
    |h id=>
     have:=aF hav
     apply hj
     simp only[Ci]
     rcases this with g|g
     ·have:Nat.ble n id=false:=by
       cases hh:Nat.ble n id
       ·rfl
       ·have:=Nat.le_of_ble_eq_true hh;omega
      rw[this];rfl
     ·have:Nat.blt id ay=false:=by
       cases hh:Nat.blt id ay
       ·rfl
       ·have:id+1≤ay:=Nat.le_of_ble_eq_true hh;omega
      rw[this];simp
theorem af.jO{lo hi:Nat}(p:aO×aY→Bool):∀{L:af},af.avo lo hi L=true→af.avo lo hi (L.filter p)=true
 |[],_=>rfl
 |x::L,h=>by
  simp only[af.avo,Bool.and_eq_true]at h
  by_cases hx:p x=true
  ·rw[List.filter_cons_of_pos hx];simp only[af.avo,Bool.and_eq_true];exact⟨h.1,af.jO p h.2⟩
  ·rw[List.filter_cons_of_neg hx];exact af.jO p h.2
def nH(C:bp)(H:af)(ρ:ap)(e:Ending)(w:World)(x:dt):Prop:=ar ρ x.fs∧ar ρ x.pc∧e=.returned (x.s.den ρ)∧HD C ρ (x.pre++H) w
theorem Cj{C:bp}{H:af}{ρ:ap}{e:Ending}{w:World}{n n':Nat}(hH:af.avo n ay H=true){x:dt}(h:nH C H ρ e w x):nH C H ρ e w (oe n n' x):=by
 unfold oe
 simp only
 cases hb:(x.s.avo n n'&&af.avo n n' (x.pre.filter fun e=>Ci n e.1))
 ·exact h
 ·exact⟨h.1,h.2.1,h.2.2.1,h.2.2.2.sub fun id o r hl=>l8 hH hl⟩
theorem Ck{n n' m:Nat}{x:dt}(h:x.ws m):(oe n n' x).ws m:=by
 unfold oe
 simp only
 cases hb:(x.s.avo n n'&&af.avo n n' (x.pre.filter fun e=>Ci n e.1))
 ·exact h
 ·exact⟨h.1,h.2.1,h.2.2.1,af.jO _ h.2.2.2⟩
def X9(c:BE)(a b:T dt):T dt:=
 match a,b with
 |.lf ⟨f,[],s,[]⟩,.lf ⟨g,[],u,[]⟩=>match OF c s u with
  |some r=> .lf ⟨f.map (.imp c)++g.map (.imp (dj c)),[],r,[]⟩
  |none=> .nd c a b
 |a,b=> .nd c a b
def Wm:T dt→T dt
 |.lf x=> .lf x
 |.nd c a b=>X9 c (Wm a) (Wm b)
 |.or a b=> .or (Wm a) (Wm b)
 |.no=> .no
theorem a6h{C:bp}{H:af}{ρ:ap}{e:Ending}{w:World}{c:BE}{a b:T dt}
 (h:(T.nd c a b).post ρ (nH C H ρ e w)):(X9 c a b).post ρ (nH C H ρ e w):=by
 unfold X9
 split
 ·rename_i f s g u
  split
  ·rename_i r hs
   simp only[T.post]at h⊢
   have hfs:=BV (ρ:=ρ) hs
   split at h
   ·rename_i hc
    obtain⟨h1,h2,h3,h4⟩:=h
    refine⟨aA.2 ⟨fun x hx=>?_,fun x hx=>?_⟩,aj _,by rw[h3,hfs,if_pos hc],h4⟩
    ·obtain⟨f',hf',rfl⟩:=List.mem_map.1 hx;exact fun _=>h1 f' hf'
    ·obtain⟨f',hf',rfl⟩:=List.mem_map.1 hx
     intro hn;rw[cJ,hc]at hn;cases hn
   ·rename_i hc
    obtain⟨h1,h2,h3,h4⟩:=h
    refine⟨aA.2 ⟨fun x hx=>?_,fun x hx=>?_⟩,aj _,by rw[h3,hfs,if_neg hc],h4⟩
    ·obtain⟨f',hf',rfl⟩:=List.mem_map.1 hx;exact fun hn=>absurd hn hc
    ·obtain⟨f',hf',rfl⟩:=List.mem_map.1 hx;exact fun _=>h1 f' hf'
  ·exact h
 ·exact h
theorem qj{C:bp}{H:af}{ρ:ap}{e:Ending}{w:World}:∀{t:T dt},t.post ρ (nH C H ρ e w)→(Wm t).post ρ (nH C H ρ e w)
 |.lf x,h=>h
 |.nd c a b,h=>by
  refine a6h ?_
  simp only[T.post]at h⊢
  split at h
  ·rename_i hc;rw[if_pos hc];exact qj h
  ·rename_i hc;rw[if_neg hc];exact qj h
 |.or a b,h=>by
  simp only[Wm,T.post]at h⊢
  exact h.imp qj qj
 |.no,h=>h.elim
theorem wU{lo hi:Nat}{c:BE}(hc:c.avo lo hi=true){x y s:SV}(h:phi c x y=some s)(hx:x.avo lo hi=true)(hy:y.avo lo hi=true):s.avo lo hi=true:=by
 have iteI:∀{a b:IE},a.avo lo hi=true→b.avo lo hi=true→(iR c a b).avo lo hi=true:=by
  intro a b ha hb;unfold iR;split
  ·exact ha
  ·exact hb
  ·cases a.eq b
   ·simp only[cond_false,IE.avo,hc,ha,hb,Bool.and_self]
   ·exact ha
 have iteB:∀{a b:BE},a.avo lo hi=true→b.avo lo hi=true→(kS c a b).avo lo hi=true:=by
  intro a b ha hb;unfold kS;split
  ·exact ha
  ·exact hb
  ·cases a.eq b
   ·simp only[cond_false,BE.avo,hc,ha,hb,Bool.and_self]
   ·exact ha
 unfold phi at h
 split at h
 ·obtain rfl:=Option.some.inj h;exact iteB hx hy
 ·rename_i k a j b
  cases hk:gw k j
  ·rw[hk]at h;cases h
  ·rw[hk]at h;obtain rfl:=Option.some.inj h;exact iteI hx hy
 ·rename_i p q
  cases hk:p.eq q
  ·rw[hk]at h;cases h
  ·rw[hk]at h;obtain rfl:=Option.some.inj h;exact hx
 ·obtain rfl:=Option.some.inj h;rfl
 ·obtain rfl:=Option.some.inj h;rfl
 ·obtain rfl:=Option.some.inj h;rfl
 ·rename_i p n k q m j
  cases hk:p.eq q
  ·rw[hk]at h;cases h
  ·rw[hk]at h;obtain rfl:=Option.some.inj h
   simp only[SV.avo,Bool.and_eq_true]at hx hy⊢
   exact⟨hx.1,iteI hx.2.1 hy.2.1,iteI hx.2.2 hy.2.2⟩
 ·rename_i a b
  cases hk:Nat.beq a b
  ·rw[hk]at h;cases h
  ·rw[hk]at h;obtain rfl:=Option.some.inj h;exact hx
 ·rename_i a b
  cases hk:Nat.beq a b
  ·rw[hk]at h;cases h
  ·rw[hk]at h;obtain rfl:=Option.some.inj h;exact hx
 ·cases h
theorem og{lo hi:Nat}{c:BE}(hc:c.avo lo hi=true):∀{x y l:List SV},kR c x y=some l→SV.avos lo hi x=true→SV.avos lo hi y=true→SV.avos lo hi l=true
 |[],[],l,h,_,_=>by simp only[kR]at h;obtain rfl:=Option.some.inj h;rfl
 |[],y::ys,l,h,_,_=>by simp only[kR]at h;cases h
 |x::xs,[],l,h,_,_=>by simp only[kR]at h;cases h
 |x::xs,y::ys,l,h,hx,hy=>by
  simp only[kR]at h
  split at h
  ·rename_i s r h1 h2
   obtain rfl:=Option.some.inj h
   simp only[SV.avos,Bool.and_eq_true]at hx hy⊢
   exact⟨wU hc h1 hx.1 hy.1,og hc h2 hx.2 hy.2⟩
  ·cases h
theorem Xa{lo hi:Nat}{c:BE}(hc:c.avo lo hi=true){x y s:SV}(h:OF c x y=some s)(hx:x.avo lo hi=true)(hy:y.avo lo hi=true):s.avo lo hi=true:=by
 unfold OF at h
 split at h
 ·rename_i a b
  cases hp:kR c a b with
  |none=>rw[hp]at h;cases h
  |some l=>rw[hp]at h;obtain rfl:=Option.some.inj h;exact og hc hp hx hy
 ·split at h
  ·split at h
   ·rename_i l r h1 h2
    obtain rfl:=Option.some.inj h
    simp only[SV.avo,SV.avos,Bool.and_eq_true]at hx hy⊢
    exact⟨og hc h1 hx.1 hy.1,wU hc h2 hx.2.1 hy.2.1,trivial⟩
   ·cases h
  ·rename_i a b _ _ _
   cases hp:kR c a b with
   |none=>rw[hp]at h;cases h
   |some l=>rw[hp]at h;obtain rfl:=Option.some.inj h;exact og hc hp hx hy
 ·exact wU hc h hx hy
theorem a6i{n m:Nat}{c:BE}{a b:T dt}(h:(T.nd c a b).all n (dt.ws n)):(X9 c a b).all n (dt.ws n):=by
 unfold X9
 split
 ·rename_i f s g u
  split
  ·rename_i r hs
   obtain⟨hc,h1,h2⟩:=h
   refine⟨F.bt ?_ ?_,rfl,Xa hc hs h1.2.2.1 h2.2.2.1,rfl⟩
   ·have:=h1.1
    simp only[F.avos,List.all_map,List.all_eq_true,Function.comp]at this⊢
    exact fun f hf=>by simp only[F.avo,hc,this f hf,Bool.and_self]
   ·have:=h2.1
    simp only[F.avos,List.all_map,List.all_eq_true,Function.comp]at this⊢
    exact fun f hf=>by simp only[F.avo,gd hc,this f hf,Bool.and_self]
  ·exact h
 ·exact h
theorem qk{n:Nat}:∀{t:T dt},t.all n (dt.ws n)→(Wm t).all n (dt.ws n)
 |.lf x,h=>h
 |.nd c a b,h=>a6i (m:=n) ⟨h.1,qk h.2.1,qk h.2.2⟩
 |.or a b,h=>⟨qk h.1,qk h.2⟩
 |.no,_=>trivial
def push(ps:List F):T dt→T dt
 |.lf x=> .lf {x with pc:=ps}
 |.nd c a b=> .nd c (push (.be c::ps) a) (push (.be (dj c)::ps) b)
 |.or a b=> .or (push ps a) (push ps b)
 |.no=> .no
theorem lL{C:bp}{H:af}{ρ:ap}{e:Ending}{w:World}:∀{t:T dt} {ps:List F},ar ρ ps→t.post ρ (nH C H ρ e w)→(push ps t).post ρ (nH C H ρ e w)
 |.lf x,ps,hp,h=>⟨h.1,hp,h.2.2.1,h.2.2.2⟩
 |.nd c a b,ps,hp,h=>by
  simp only[push,T.post]at h⊢
  split at h
  ·rename_i hc;rw[if_pos hc];exact lL (aa.2 ⟨hc,hp⟩) h
  ·rename_i hc;rw[if_neg hc]
   refine lL (aa.2 ⟨?_,hp⟩) h
   simp only[F.holds,cJ];cases hh:c.den ρ
   ·rfl
   ·exact absurd hh hc
 |.or a b,ps,hp,h=>by
  simp only[push,T.post]at h⊢
  exact h.imp (lL hp) (lL hp)
 |.no,ps,hp,h=>h.elim
theorem lM{n:Nat}:∀{t:T dt} {ps:List F},F.avos n ay ps=true→t.all n (dt.ws n)→(push ps t).all n (dt.ws n)
 |.lf x,ps,hp,h=>⟨h.1,hp,h.2.2.1,h.2.2.2⟩
 |.nd c a b,ps,hp,h=>by
  have e1:F.avos n ay (.be c::ps)=true:=by
   simp only[F.avos,List.all_cons,F.avo,h.1,Bool.true_and]at hp⊢;exact hp
  have e2:F.avos n ay (.be (dj c)::ps)=true:=by
   simp only[F.avos,List.all_cons,F.avo,gd h.1,Bool.true_and]at hp⊢;exact hp
  exact⟨h.1,lM e1 h.2.1,lM e2 h.2.2⟩
 |.or a b,ps,hp,h=>⟨lM hp h.1,lM hp h.2⟩
 |.no,ps,hp,_=>trivial
end
section
variable [cg]
def gS:Nat→List SV→af
 |_,[]=>[]
 |i,s::r=>(.r i,.reg (.lit true) s)::gS (i+1) r
theorem sY{c:BE}{s:SV}:∀{l:List SV} {i t:Nat},ai (.r t) (gS i l)=some (.reg c s)→c=.lit true∧i≤t∧l[t-i]? =some s
 |[],i,t,h=>by simp[gS,ai]at h
 |x::r,i,t,h=>by
  simp only[gS,ak]at h
  by_cases he:aO.r i=aO.r t
  ·obtain rfl:=aO.r.inj he
   rw[if_pos rfl]at h
   obtain⟨rfl,rfl⟩:=aY.reg.inj (Option.some.inj h)
   exact⟨rfl,Nat.le_refl _,by simp⟩
  ·rw[if_neg he]at h
   obtain⟨h1,h2,h3⟩:=sY h
   refine⟨h1,by omega,?_⟩
   rw[show t-i=(t-(i+1))+1 by omega,List.getElem?_cons_succ]
   exact h3
theorem ql{lo hi:Nat}:∀{l:List SV} {i:Nat},SV.avos lo hi l=true→af.avo lo hi (gS i l)=true
 |[],i,_=>rfl
 |x::r,i,h=>by
  simp only[SV.avos,Bool.and_eq_true]at h
  simp only[gS,af.avo,aO.avo,aY.avo,BE.avo,h.1,ql h.2,Bool.and_self]
def inl(P:Program)(call:aU)(dr:eK)(lp:dG):aU:=fun f args n H g=>
 match P.funcs[f]? with
 |some fn=>
  match fn.body with
  |some c=>
   match fk P call dr lp (args.length+(fn.ntmps-args.length)) g c n ⟨[],[],gS 0 args,H,[]⟩with
   |some (v,t,n1)=>
    match gR (fin P fn g) t n1 with
    |some (v2,t2,n2)=>some ⟨v++v2,push [] (Wm (t2.map (oe n n2))),n2⟩
    |none=>none
   |none=>none
  |none=>none
 |none=>none
def tbl(P:Program)(ctr:aU)(dr:aU→eK)(lp:Nat→dG):Nat→aU
 |0=>fun _ _ _ _ _=>none
 |k+1=>fun f args n H g=>
  match ctr f args n H g with
  |some out=>some out
  |none=>inl P (tbl P ctr dr lp k) (dr (tbl P ctr dr lp k)) (lp f) f args n H g
theorem Cl{nt:Nat}{ρ:ap}{args:List SV}{k:Nat}(hk:nt=args.length+k):RD nt ρ (gS 0 args) {tmps:=(args.map (SV.den ρ)).toArray++Array.replicate k undef,defers:=[]}:=by
 refine⟨rfl,by simp[hk],fun t c s hl=>?_⟩
 obtain⟨rfl,_,h⟩:=sY hl
 rw[Nat.sub_zero]at h
 have hlt:=(List.getElem?_eq_some_iff.1 h).1
 rw[Array.getElem?_append_left (by simpa using hlt)]
 simp[h,BE.den]
def abj(P:Program)(f:Nat)(args:Array Value)(w:World)(R:Ending→World→Prop):Prop:=
 ∃fn c,P.funcs[f]? =some fn∧fn.body=some c∧c.wp P (bodyPost P fn R) {tmps:=args++Array.replicate (fn.ntmps-args.size) undef,defers:=[]} w
theorem Cm{P:Program}{call:aU}(hcall:bI P call)(hN:iS P){dr:eK}(hdr:rJ P dr){lp:dG}(hlp:rK P lp)
 (f:Nat) (args:List SV) (n:Nat) (H:af) (g:List F) (out:sQ) (h:inl P call dr lp f args n H g=some out) (hH:af.avo n ay H=true) (hA:SV.avos n ay args=true) (hg:F.avos n ay g=true) (hn:n≤ay):
 n≤out.n∧out.n≤ay∧out.t.all out.n (dt.ws out.n)∧
 (ab out.vcs→∀(C:bp) (ρ:ap) (w:World),ar ρ g→HD C ρ H w→
   abj P f (args.map (SV.den ρ)).toArray w fun e w'=>∃ρ',b7 n out.n ρ ρ'∧
    out.t.post ρ' fun x=>ar ρ' x.fs∧ar ρ' x.pc∧e=.returned (x.s.den ρ')∧HD C ρ' (x.pre++H) w'):=by
 unfold inl at h
 split at h
 ·rename_i fn hf
  split at h
  ·rename_i c hb
   split at h
   ·rename_i v t n1 hr
    split at h
    ·rename_i v2 t2 n2 h2
     obtain rfl:=Option.some.inj h
     have hws:(⟨[],[],gS 0 args,H,[]⟩:Br).ws H n:=⟨rfl,rfl,ql hA,hH,rfl⟩
     have key:∀(C:bp),_:=fun C=>wT hcall hN hdr hlp C hg c n _ v t n1 hr (Nat.le_refl _) hws hn
     have fkey:∀(C:bp) (e:Exit) (a':Act) (w':World) (R:Ending→World→Prop) (z:Ex×Br) (m:Nat) (v:dU) (t:T dt) (m':Nat),fin P fn g z m=some (v,t,m')→(n1≤m∧z.2.ws H m)→m≤ay→
      m≤m'∧m'≤ay∧t.all m' (dt.ws m')∧(ab v→∀ρ,(qB C (args.length+(fn.ntmps-args.length)) ρ z e a' w'∧ar ρ g)→
       j8 (fun Q=>∃vv,(results fn a'.tmps).run P w'=.ok vv w'∧a'.defers=[]∧(e=.normal∨e=.ret)∧Q .normal ⟨#[vv],[]⟩ w')
        (fun ρ x e a w=>a.tmps=#[x.s.den ρ]∧nH C H ρ (.returned (x.s.den ρ)) w x) ρ m m' t):=by
      intro C e a' w' R z m v t m' hz hws hm
      obtain⟨ze,zb⟩:=z
      have main:∀(l:List SV) (u:List F),(ze=.normal∨ze=.ret)→ul P zb.R zb.H fn.results.toList=some (u,l)→(od l).avo m ay=true→
       v=(u.map fun f=>(zb.g++(zb.pc++g),f))→t=.lf ⟨zb.g,[],od l,zb.pre⟩→m'=m→
       m≤m'∧m'≤ay∧t.all m' (dt.ws m')∧(ab v→∀ρ,(qB C (args.length+(fn.ntmps-args.length)) ρ (ze,zb) e a' w'∧ar ρ g)→
       j8 (fun Q=>∃vv,(results fn a'.tmps).run P w'=.ok vv w'∧a'.defers=[]∧(e=.normal∨e=.ret)∧Q .normal ⟨#[vv],[]⟩ w')
        (fun ρ x e a w=>a.tmps=#[x.s.den ρ]∧nH C H ρ (.returned (x.s.den ρ)) w x) ρ m m' t):=by
       intro l u hze hres hav hv ht hm'
       subst hv ht hm'
       refine⟨Nat.le_refl _,hm,⟨hws.2.1,rfl,hav,?_⟩,fun hval ρ hp Q hQ=>?_⟩
       ·have h4:=hws.2.2.2.2.1
        have h5:=hws.2.2.2.2.2
        simp only at h5
        rw[h5]at h4
        clear hws h5
        revert h4
        generalize zb.pre=pr
        induction pr with
        |nil=>intro _;rfl
        |cons x pr ih=>
         intro h4
         simp only[List.cons_append,af.avo,Bool.and_eq_true]at h4⊢
         exact⟨h4.1,ih h4.2⟩
       ·obtain⟨⟨he,hbs⟩,hgA⟩:=hp
        simp only at he hbs
        have hu:ar ρ u:=fun f hf=>hval _ (List.mem_map.2 ⟨f,hf,rfl⟩) ρ (aA.2 ⟨hbs.g,aA.2 ⟨hbs.pc,hgA⟩⟩)
        refine⟨_,qM hbs.hd hbs.rd hres hu,hbs.rd.defers,by(rcases hze with rfl|rfl);exact .inl he;exact .inr he,hQ .normal ρ _ w' (b7.refl _ _ _) ?_⟩
        refine⟨rfl,hbs.g,aj _,rfl,?_⟩
        have h5:=hws.2.2.2.2.2
        simp only at h5
        rw[←h5];exact hbs.hd
      cases ze with
      |exit j=>simp only[fin]at hz;cases hz
      |normal=>
       simp only[fin]at hz
       split at hz
       ·rename_i u l hres
        cases hav:(od l).avo m ay
        ·rw[hav]at hz;cases hz
        ·rw[hav]at hz
         simp only[cond_true,Option.some.injEq,Prod.mk.injEq]at hz
         obtain⟨rfl,rfl,rfl⟩:=hz
         exact main l u (.inl rfl) hres hav rfl rfl rfl
       ·cases hz
      |ret=>
       simp only[fin]at hz
       split at hz
       ·rename_i u l hres
        cases hav:(od l).avo m ay
        ·rw[hav]at hz;cases hz
        ·rw[hav]at hz
         simp only[cond_true,Option.some.injEq,Prod.mk.injEq]at hz
         obtain⟨rfl,rfl,rfl⟩:=hz
         exact main l u (.inr rfl) hres hav rfl rfl rfl
       ·cases hz
     obtain⟨a1,a2,a3,_⟩:=key ⟨default,fun _=>False,fun _=>False⟩
     have all1:t.all n1 (fun z=>n1≤n1∧z.2.ws H n1):=T.bo (Nat.le_refl _) (fun z hz=>⟨Nat.le_refl _,hz⟩) a3
     have base0:=fun(C:bp) (e:Exit) (a':Act) (w':World) (R:Ending→World→Prop)=>gE (ws:=fun m (z:Ex×Br)=>n1≤m∧z.2.ws H m) (ws':=fun m (x:dt)=>x.ws m)
      (fun _ _ z hnm hz=>⟨Nat.le_trans hz.1 hnm,Br.bh hnm hz.2⟩) (fun _ _ x hnm hx=>dt.bh hnm hx) (fkey C e a' w' R) t n1 v2 t2 n2 h2 all1 a2
     obtain⟨g1,g2,g3,_⟩:=base0 ⟨default,fun _=>False,fun _=>False⟩ .normal ⟨#[],[]⟩ default (fun _ _=>True)
     refine⟨by show n≤n2;omega,g2,lM rfl (qk (T.all_map (T.bo (Nat.le_refl _) (fun x hx=>Ck hx) g3))),fun hv C ρ w hgρ HH=>?_⟩
     obtain⟨_,_,_,a4⟩:=key C
     refine⟨fn,c,hf,hb,wpIn_wide (n:=9).1 ?_⟩
     have hR:RD (args.length+(fn.ntmps-args.length)) ρ (gS 0 args) {tmps:=(args.map (SV.den ρ)).toArray++Array.replicate (fn.ntmps-(args.map (SV.den ρ)).toArray.size) undef,defers:=[]}:=
      Cl (by simp)
     refine a4 hv.app.1 ρ _ w hgρ ⟨aj _,aj _,HH,hR⟩ _ fun e ρ' a' w' hagr hp=>?_
     obtain⟨_,_,_,g4⟩:=base0 C e a' w' (fun _ _=>True)
     have hgρ':=(aZ hagr (F.aq (Nat.le_refl _) a2 hg)).2 hgρ
     obtain⟨vv,hres,hdef,hexit,hQ⟩:=g4 hv.app.2 ρ' (T.bd (fun z hz=>⟨hz,hgρ'⟩) hp)
      (fun _ a w=>∃ρ'',b7 n1 n2 ρ' ρ''∧t2.post ρ'' fun x=>a.tmps=#[x.s.den ρ'']∧nH C H ρ'' (.returned (x.s.den ρ'')) w x)
      (fun e ρ'' a w hag hpp=>⟨ρ'',hag,hpp⟩)
     obtain⟨ρ'',hag,hpp⟩:=hQ
     have hpost:(push [] (Wm (t2.map (oe n n2)))).post ρ'' (nH C H ρ'' (.returned vv) w'):=by
      refine lL (aj _) (qj (T.l7.2 (T.bd (fun x hx=>?_) hpp)))
      obtain⟨h1,h2⟩:=hx
      have hvv:vv=x.s.den ρ'':=by
       have:(#[vv]:Array Value)=#[x.s.den ρ'']:=h1
       simpa using this
      exact Cj hH (by rw[hvv];exact h2)
     have fine:∃ρ',b7 n n2 ρ ρ'∧(push [] (Wm (t2.map (oe n n2)))).post ρ' fun x=>ar ρ' x.fs∧ar ρ' x.pc∧Ending.returned vv=.returned (x.s.den ρ')∧HD C ρ' (x.pre++H) w':=
      ⟨ρ'',hagr.trans hag g1 a1,hpost⟩
     rcases hexit with rfl|rfl
     ·exact⟨hdef,vv,hres,fine⟩
     ·exact⟨hdef,vv,hres,fine⟩
    ·cases h
   ·cases h
  ·cases h
 ·cases h
theorem abk{P:Program}{call:aU}(hcall:bI P call)(hN:iS P){dr:eK}(hdr:rJ P dr){lp:dG}(hlp:rK P lp):bI P (inl P call dr lp):=by
 intro f args n H g out h hH hA hg hn
 obtain⟨h1,h2,h3,h4⟩:=Cm hcall hN hdr hlp f args n H g out h hH hA hg hn
 refine⟨h1,h2,h3,fun hv C ρ w hgρ HH=>?_⟩
 obtain⟨fn,c,hf,hb,hw⟩:=h4 hv C ρ w hgρ HH
 exact calls_of_wp hf hb hw
theorem Hl{P:Program}{ctr:aU}(hctr:bI P ctr)(hN:iS P){dr:aU→eK}(hdr:∀call,bI P call→rJ P (dr call)){lp:Nat→dG}(hlp:∀f,rK P (lp f)):∀k,bI P (tbl P ctr dr lp k)
 |0=>fun f args n H g out h=>by simp only[tbl]at h;cases h
 |k+1=>fun f args n H g out h=>by
  simp only[tbl]at h
  split at h
  ·rename_i o ho
   obtain rfl:=Option.some.inj h
   exact hctr f args n H g _ ho
  ·exact abk (Hl hctr hN hdr hlp k) hN (hdr _ (Hl hctr hN hdr hlp k)) (hlp f) f args n H g out h
end
section
variable [cg] [Fm]
def ae1(acc:List Nat)(o:Oper):Nat:=
 o.after.toList.foldl (fun m e=>bif Region.binds .any e then m|||(2 ^ e.on|||acc.getD e.on 0)else m) 0
def dV:List Oper→List Nat→List Nat
 |[],acc=>acc
 |o::r,acc=>dV r (acc++[ae1 acc o])
theorem uT(acc:List Nat)(j:Nat):∀(l:List Edge) (m:Nat),(l.foldl (fun m e=>bif Region.binds .any e then m|||(2 ^ e.on|||acc.getD e.on 0)else m) m).testBit j=true→
 m.testBit j=true∨∃e,e∈l∧Region.binds .any e=true∧(e.on=j∨(acc.getD e.on 0).testBit j=true)
 |[],m,h=> .inl h
 |e::l,m,h=>by
  simp only[List.foldl_cons]at h
  rcases uT acc j l _ h with h|⟨e',he',hb,h'⟩
  ·cases hb:Region.binds .any e
   ·rw[hb]at h;exact .inl h
   ·rw[hb]at h
    simp only[cond_true,Nat.testBit_or,Bool.or_eq_true]at h
    rcases h with h|h|h
    ·exact .inl h
    ·refine .inr ⟨e,.head _,hb,.inl ?_⟩
     rw[Nat.testBit_two_pow]at h
     exact of_decide_eq_true h
    ·exact .inr ⟨e,.head _,hb,.inr h⟩
  ·exact .inr ⟨e',.tail _ he',hb,h'⟩
def OZ(ops:List Oper)(S:Nat→Bool):Prop:=∀(i:Nat) (o:Oper),ops[i]? =some o→S i=true→∀e,e∈o.after.toList→Region.binds .any e=true→S e.on=true
theorem qm:∀(l:List Oper) (acc:List Nat),(dV l acc).length=acc.length+l.length
 |[],acc=>rfl
 |o::r,acc=>by rw[dV,qm r];simp only[List.length_append,List.length_cons,List.length_nil];omega
theorem qN{ops:List Oper}{S:Nat→Bool}(hS:OZ ops S):∀(l pre:List Oper) (acc:List Nat),ops=pre++l→acc.length=pre.length→
 (∀(i m:Nat),acc[i]? =some m→(∀(o:Oper),ops[i]? =some o→∀(e:Edge),e∈o.after.toList→Region.binds .any e=true→S e.on=true)→∀j,m.testBit j=true→S j=true)→
 ∀(i m:Nat),(dV l acc)[i]? =some m→(∀(o:Oper),ops[i]? =some o→∀(e:Edge),e∈o.after.toList→Region.binds .any e=true→S e.on=true)→∀j,m.testBit j=true→S j=true
 |[],pre,acc,he,hl,h=>h
 |o::r,pre,acc,he,hl,h=>by
  refine qN hS r (pre++[o]) (acc++[ae1 acc o]) (by rw[he];simp) (by simp[hl]) ?_
  intro i m hm hp j hj
  by_cases hi:i<acc.length
  ·rw[List.getElem?_append_left hi]at hm;exact h i m hm hp j hj
  ·have hi2:i=acc.length:=by
    have:=(List.getElem?_eq_some_iff.1 hm).1
    simp at this;omega
   subst hi2
   rw[List.getElem?_append_right (Nat.le_refl _),Nat.sub_self]at hm
   obtain rfl:=Option.some.inj hm
   have ho:ops[acc.length]? =some o:=by rw[he,hl,List.getElem?_append_right (Nat.le_refl _),Nat.sub_self];rfl
   rcases uT acc j _ 0 hj with h0|⟨e,hem,hb,h0|h0⟩
   ·simp at h0
   ·rw[←h0];exact hp o ho e hem hb
   ·have hSe:=hp o ho e hem hb
    rw[List.getD_eq_getElem?_getD]at h0
    cases hae:acc[e.on]? with
    |none=>rw[hae]at h0;simp at h0
    |some m'=>
     rw[hae]at h0
     exact h e.on m' hae (fun o' ho'=>hS e.on o' ho' hSe) j h0
structure Ef where
 i:Nat
 dst:Option Tmp
 heapy:Bool
 c:BE
 s:SV
 fs:List F
 pre:af
 vcs:dU
 n:Nat
 n':Nat
def heapy:Op→Bool
 |.load _ _=>true
 |.store _ _ _=>true
 |.call _=>true
 |.alloc _=>false
 |.box _ _=>false
 |.move _=>false
 |.assign _=>false
 |.pick _ _ _=>false
 |.build _ _=>false
 |.nilCheck _=>false
 |.binOp _ _ _ _ _=>false
 |.unOp _ _ _=>false
 |.convert _ _ _=>false
 |.fieldAddr _ _ _=>false
 |.indexAddr _ _ _=>true
 |.extract _ _=>false
 |.makeFunc _ _ _=>false
 |_=>true
def Xb(P:Program)(call:aU)(nt:Nat)(all:Array Oper)(R H:af)(n:Nat)(g:List F)(i:Nat)(o:Oper):Option Ef:=
 bif !(sU nt o.dst)then none else
 match l4 all R o with
 |some (.lit false)=>some ⟨i,o.dst,heapy o.op,.lit true,.tup [],[],[],[],n,n⟩
 |q=>
 match q.map (OX g)with
 |none=>none
 |some (.lit false)=>some ⟨i,o.dst,heapy o.op,q.getD (.lit false),.b (.lit false),[],[],[],n,n⟩
 |some (.lit true)=>
  match qL P call R H n g (.lit true) o.op with
  |some ⟨vcs,.lf ⟨fs,[],s,pre⟩,n1⟩=>some ⟨i,o.dst,heapy o.op,.lit true,s,fs,pre,vcs,n,n1⟩
  |_=>none
 |some c=>
  match qL P call R H n (.be c::g) c o.op with
  |some ⟨vcs,.lf ⟨fs,[],s,pre⟩,n1⟩=>bif jN n pre then some ⟨i,o.dst,heapy o.op,c,s,fs.map (.imp c),[],vcs,n,n1⟩else none
  |_=>none
structure Xc (P:Program) (nt:Nat) (all:Array Oper) (R H:af) (g:List F) (n:Nat) (o:Oper) (x:Ef):Prop where
 dst:x.dst=o.dst
 dok:sU nt x.dst=true
 xn:x.n=n
 le:n≤x.n'
 big:x.n'≤ay
 cav:x.c.avo n ay=true
 sav:x.s.avo x.n' ay=true
 fav:F.avos x.n' ay x.fs=true
 pav:af.avo x.n' ay x.pre=true
 run:ab x.vcs→∀(C:bp) (ρ:ap) (a:Act) (w:World),ar ρ g→HD C ρ H w→RD nt ρ R a→
  ∀(i:Nat),all[i]? =some o→∀(K:Act→World→Prop) (Q:Exit→Act→World→Prop),
   (∀ρ' w',b7 n x.n' ρ ρ'→ar ρ' x.fs→HD C ρ' (x.pre++H) w'→K (a.put x.dst (if x.c.den ρ' then x.s.den ρ' else undef)) w')→wpOpIn (FC Fm.ro) 9 P all Q i K a w
theorem a6j{P:Program}{call:aU}(hcall:bI P call)(hN:iS P){nt:Nat}{all:Array Oper}{R H:af}{n:Nat}{g:List F}{i:Nat}{o:Oper}{x:Ef}(h:Xb P call nt all R H n g i o=some x)
 (hR:af.avo n ay R=true) (hH:af.avo n ay H=true) (hg:F.avos n ay g=true) (hn:n≤ay):Xc P nt all R H g n o x:=by
 unfold Xb at h
 cases hd:sU nt o.dst
 ·simp only[hd,Bool.not_false,cond_true]at h;cases h
 simp only[hd,Bool.not_true,cond_false]at h
 split at h
 ·rename_i hgu
  obtain rfl:=Option.some.inj h
  refine⟨rfl,hd,rfl,Nat.le_refl _,hn,rfl,rfl,rfl,rfl,fun hv C ρ a w hgρ HH RR i hi K Q hK=>?_⟩
  have hw:=dh RR hgu
  simp only[BE.den]at hw
  simp only[wpOpIn,hi,hw,Bool.false_eq_true,if_false]
  refine⟨fun _ _=>trivial,?_⟩
  exact hK ρ w (b7.refl _ _ _) (aj _) HH
 generalize hq:l4 all R o=q at h
 split at h
 ·cases h
 ·rename_i hgu
  obtain rfl:=Option.some.inj h
  have hqa:(q.getD (.lit false)).avo n ay=true:=by
   cases q with
   |none=>rfl
   |some c0=>exact jM hR hq
  refine⟨rfl,hd,rfl,Nat.le_refl _,hn,hqa,rfl,rfl,rfl,fun hv C ρ a w hgρ HH RR i hi K Q hK=>?_⟩
  obtain⟨c0,hg0,hgu⟩:=Option.map_eq_some_iff.1 hgu
  rw[hg0]at hq
  have hqd:(q.getD (.lit false)).den ρ=false:=by rw[hg0];show c0.den ρ=false;rw[←l6 hgρ c0,hgu];rfl
  have hw:=(dh RR hq).trans (l6 hgρ c0).symm
  rw[hgu]at hw
  simp only[BE.den]at hw
  simp only[wpOpIn,hi,hw,Bool.false_eq_true,if_false]
  have:=hK ρ w (b7.refl _ _ _) (aj _) HH
  simp only[hqd,Bool.false_eq_true,if_false]at this
  exact⟨fun _ _=>trivial,this⟩
 ·rename_i hgu
  split at h
  ·rename_i vcs fs s pre n1 hst
   obtain rfl:=Option.some.inj h
   obtain⟨s1,s2,s3,s4⟩:=kZ (o:=o) hcall hN hst hR hH hg hn
   refine⟨rfl,hd,rfl,s1,s2,rfl,s3.2.2.1,s3.1,s3.2.2.2,fun hv C ρ a w hgρ HH RR i hi K Q hK=>?_⟩
   obtain⟨c0,hg0,hgu⟩:=Option.map_eq_some_iff.1 hgu
   have hw:=(dh RR (hq.trans hg0)).trans (l6 hgρ c0).symm
   rw[hgu]at hw
   simp only[BE.den]at hw
   simp only[wpOpIn,hi,hw,if_true]
   refine(s4 hv C nt ρ a w hgρ HH RR rfl _ _ fun ρ' w' v hagr hp=>?_)
   obtain⟨p1,p2,p3,p4⟩:=hp
   have:=hK ρ' w' hagr p1 p4
   rw[p3]
   exact this
  ·cases h
 ·rename_i c hcf hct hgu
  split at h
  ·rename_i vcs fs s pre n1 hst
   cases hfk:jN n pre
   ·rw[hfk]at h;cases h
   ·rw[hfk]at h
    obtain rfl:=Option.some.inj h
    obtain⟨c0,hg0,hgu⟩:=Option.map_eq_some_iff.1 hgu
    have hca:c.avo n ay=true:=by rw[←hgu];exact Ch (jM hR (hq.trans hg0))
    have hg':F.avos n ay (.be c::g)=true:=by
     simp only[F.avos,List.all_cons,F.avo,hca,Bool.true_and]at hg⊢;exact hg
    obtain⟨s1,s2,s3,s4⟩:=kZ (o:=o) hcall hN hst hR hH hg' hn
    simp only at s1 s2 s3 s4
    have hca1:c.avo n1 ay=true:=BE.ad s1 (Nat.le_refl _) c hca
    refine⟨rfl,hd,rfl,s1,s2,hca,s3.2.2.1,?_,rfl,fun hv C ρ a w hgρ HH RR i hi K Q hK=>?_⟩
    ·have:=s3.1
     simp only[F.avos,List.all_map,List.all_eq_true,Function.comp]at this⊢
     exact fun f hf=>by simp only[F.avo,hca1,this f hf,Bool.and_self]
    ·have hw:=(dh RR (hq.trans hg0)).trans (l6 hgρ c0).symm
     rw[hgu]at hw
     simp only[wpOpIn,hi,hw]
     cases hcd:c.den ρ
     ·simp only[Bool.false_eq_true,if_false]
      have:=hK ρ w (b7.refl _ _ _) (fun f hf=>by
       obtain⟨f',_,rfl⟩:=List.mem_map.1 hf
       intro hc;rw[hcd]at hc;cases hc) HH
      simp only[hcd,Bool.false_eq_true,if_false]at this
      exact⟨fun _ _=>trivial,this⟩
     ·simp only[if_true]
      refine(s4 hv C nt ρ a w (aa.2 ⟨hcd,hgρ⟩) HH RR hcd _ _ fun ρ' w' v hagr hp=>?_)
      obtain⟨p1,p2,p3,p4⟩:=hp
      simp only at p1 p3 p4
      have hcd':c.den ρ'=true:=by rw[BE.ag hagr c (BE.ad (Nat.le_refl _) s2 c hca)];exact hcd
      have:=hK ρ' w' hagr (fun f hf=>by
       obtain⟨f',hf',rfl⟩:=List.mem_map.1 hf
       exact fun _=>p1 f' hf') (p4.sub fun id o r hl=>l5 hfk hH hl)
      simp only[hcd',if_true]at this
      rw[p3];exact this
  ·cases h
def cQ(p:Nat→Bool):List Ef→af→af
 |[],b=>b
 |e::r,b=>cQ p r (bif p e.i then e.pre++b else b)
def fc(p:Nat→Bool):List Ef→af→af
 |[],b=>b
 |e::r,b=>fc p r (bif p e.i then gO e.dst e.c e.s b else b)
def qn(p:Nat→Bool):List Ef→List F→List F
 |[],b=>b
 |e::r,b=>qn p r (bif p e.i then e.fs++b else b)
def cn(k:aO):af→Bool
 |[]=>false
 |(j,_)::r=>j.eq k||cn k r
theorem cG{k:aO}:∀{L M:af},ai k (L++M)=if cn k L=true then ai k L else ai k M
 |[],M=>rfl
 |(j,e)::L,M=>by
  rw[List.cons_append,ak,ak]
  by_cases h:j=k
  ·rw[if_pos h,if_pos h,if_pos (by simp only[cn,aO.dJ.2 h,Bool.true_or])]
  ·rw[if_neg h,if_neg h,cG]
   have:cn k ((j,e)::L)=cn k L:=by
    simp only[cn]
    cases hh:j.eq k
    ·rfl
    ·exact absurd (aO.dJ.1 hh) h
   rw[this]
theorem qo{k:aO}:∀{L:af},cn k L=false→ai k L=none
 |[],_=>rfl
 |(j,e)::L,h=>by
  simp only[cn,Bool.or_eq_false_iff]at h
  rw[ak,if_neg (fun e=>by rw[aO.dJ.2 e]at h;cases h.1),qo h.2]
theorem lN{p q:Nat→Bool}{k:aO}:∀{l:List Ef} {b b':af},(∀e,e∈l→cn k e.pre=true→p e.i=q e.i)→ai k b=ai k b'→ai k (cQ p l b)=ai k (cQ q l b')
 |[],b,b',h,hb=>hb
 |e::r,b,b',h,hb=>by
  simp only[cQ]
  refine lN (fun e' he'=>h e' (.tail _ he')) ?_
  cases hk:cn k e.pre
  ·have e1:∀b:af,ai k (e.pre++b)=ai k b:=fun b=>by rw[cG,if_neg (by rw[hk];decide)]
   cases p e.i<;>cases q e.i<;>simp only[cond_true,cond_false,e1,hb]
  ·rw[h e (.head _) hk]
   cases q e.i
   ·exact hb
   ·simp only[cond_true,cG,hb]
theorem lO{p q:Nat→Bool}{t:Nat}:∀{l:List Ef} {b b':af},(∀e,e∈l→e.dst=some t→p e.i=q e.i)→ai (.r t) b=ai (.r t) b'→ai (.r t) (fc p l b)=ai (.r t) (fc q l b')
 |[],b,b',h,hb=>hb
 |e::r,b,b',h,hb=>by
  simp only[fc]
  refine lO (fun e' he'=>h e' (.tail _ he')) ?_
  by_cases hk:e.dst=some t
  ·rw[h e (.head _) hk]
   cases q e.i
   ·exact hb
   ·simp only[cond_true,gO,hk,bT]
  ·have e1:∀b:af,ai (.r t) (gO e.dst e.c e.s b)=ai (.r t) b:=fun b=>by
    cases hd:e.dst with
    |none=>rfl
    |some d=>simp only[gO];rw[ak,if_neg (fun e'=>hk (by rw[hd,aO.r.inj e']))]
   cases p e.i<;>cases q e.i<;>simp only[cond_true,cond_false,e1,hb]
theorem sZ{p:Nat→Bool}:∀{l:List Ef} {x b:af},cQ p l (x++b)=cQ p l x++b
 |[],x,b=>rfl
 |e::r,x,b=>by
  simp only[cQ]
  cases p e.i
  ·exact sZ
  ·simp only[cond_true,←List.append_assoc];exact sZ
theorem cU{p:Nat→Bool}{f:F}:∀{l:List Ef} {b:List F},f∈qn p l b↔(f∈b∨∃e,e∈l∧p e.i=true∧f∈e.fs)
 |[],b=>by simp[qn]
 |e::r,b=>by
  simp only[qn,cU]
  cases hp:p e.i
  ·simp only[cond_false,List.mem_cons]
   constructor
   ·rintro(h|⟨e',he',h⟩)
    ·exact .inl h
    ·exact .inr ⟨e',.inr he',h⟩
   ·rintro(h|⟨e',rfl|he',h⟩)
    ·exact .inl h
    ·rw[hp]at h;cases h.1
    ·exact .inr ⟨e',he',h⟩
  ·simp only[cond_true,List.mem_append,List.mem_cons]
   constructor
   ·rintro((h|h)|⟨e',he',h⟩)
    ·exact .inr ⟨e,.inl rfl,hp,h⟩
    ·exact .inl h
    ·exact .inr ⟨e',.inr he',h⟩
   ·rintro(h|⟨e',rfl|he',h⟩)
    ·exact .inl (.inr h)
    ·exact .inl (.inl h.2)
    ·exact .inr ⟨e',he',h⟩
end
section
variable [cg] [Fm]
def MZ(d:Option Tmp)(t:Nat):Bool:=
 match d with
 |some u=>Nat.beq u t
 |none=>false
theorem P0{d:Option Tmp}{t:Nat}:MZ d t=true↔d=some t:=by
 cases d with
 |none=>simp[MZ]
 |some u=>simp[MZ,Nat.beq_eq]
def a6k(ms:List Nat)(m i:Nat):Nat→List Oper→Nat→Nat
 |_,[],acc=>acc
 |k,o::r,acc=>a6k ms m i (k+1) r (bif Nat.beq k i||(m.testBit k||(ms.getD k 0).testBit i)then acc else match o.dst with
  |some t=>acc|||2 ^ t
  |none=>acc)
theorem Cn{ms:List Nat}{m i t:Nat}:∀{l:List Oper} {k acc:Nat},(a6k ms m i k l acc).testBit t=false→acc.testBit t=false
 |[],k,acc,h=>h
 |o::r,k,acc,h=>by
  have h:=Cn (l:=r) h
  cases hc:Nat.beq k i||(m.testBit k||(ms.getD k 0).testBit i)
  ·rw[hc]at h
   cases hd:o.dst with
   |none=>rw[hd]at h;exact h
   |some u=>rw[hd]at h;simp only[cond_false,Nat.testBit_or,Bool.or_eq_false_iff]at h;exact h.1
  ·rw[hc]at h;exact h
theorem Co{ms:List Nat}{m i t:Nat}:∀{l:List Oper} {k0 acc:Nat},(a6k ms m i k0 l acc).testBit t=false→∀(k:Nat) (o:Oper),l[k]? =some o→o.dst=some t→k0+k=i∨m.testBit (k0+k)=true∨(ms.getD (k0+k) 0).testBit i=true
 |[],k0,acc,h,k,o,ho,hd=>by simp at ho
 |x::r,k0,acc,h,k,o,ho,hd=>by
  cases k with
  |zero=>
   obtain rfl:=Option.some.inj ho
   have h:=Cn (l:=r) h
   cases hc:Nat.beq k0 i||(m.testBit k0||(ms.getD k0 0).testBit i)
   ·rw[hc,hd]at h
    simp only[cond_false,Nat.testBit_or,Bool.or_eq_false_iff,Nat.testBit_two_pow]at h
    simp at h
   ·rw[Bool.or_eq_true,Bool.or_eq_true]at hc
    rcases hc with g|g
    ·exact .inl (Nat.eq_of_beq_eq_true g)
    ·exact .inr g
  |succ k=>
   have:=Co (l:=r) h k o (by simpa using ho) hd
   rw[show k0+(k+1)=k0+1+k by omega];exact this
def t9(all:List Oper)(ms:List Nat)(m i:Nat)(done:List Ef)(R:af):af:=
 (fc (fun k=>m.testBit k) done R).filter fun e=>match e.1 with
   |.r t=>!((a6k ms m i 0 all 0).testBit t)
   |.h _=>false
class gG where
 hid:Nat→Nat→Bool
variable [gG]
def ng(i:Nat):af→af
 |[]=>[]
 |(.h id,e)::r=>bif gG.hid i id then ng i r else(.h id,e)::ng i r
 |x::r=>x::ng i r
theorem jP{i id:Nat}{v:aY}:∀{L:af},ai (.h id) (ng i L)=some v→gG.hid i id=false∧ai (.h id) L=some v
 |[],h=>by cases h
 |(.h u,e)::r,h=>by
  simp only[ng]at h
  cases hu:gG.hid i u
  ·rw[hu]at h
   simp only[cond_false]at h
   rw[ak]at h⊢
   by_cases hk:aO.h u=aO.h id
   ·obtain rfl:=aO.h.inj hk
    rw[if_pos rfl]at h⊢;exact⟨hu,h⟩
   ·rw[if_neg hk]at h⊢;exact jP h
  ·rw[hu]at h
   simp only[cond_true]at h
   have:=jP h
   refine⟨this.1,?_⟩
   rw[ak,if_neg]
   ·exact this.2
   ·intro hk
    obtain rfl:=aO.h.inj hk
    rw[hu]at this;cases this.1
 |(.r t,e)::r,h=>by
  simp only[ng]at h
  rw[ak]at h⊢
  rw[if_neg (by intro hk;cases hk)]at h⊢
  exact jP h
theorem lP{lo hi i:Nat}:∀{L:af},af.avo lo hi L=true→af.avo lo hi (ng i L)=true
 |[],_=>rfl
 |(.h u,e)::r,h=>by
  simp only[af.avo,Bool.and_eq_true]at h
  simp only[ng]
  cases gG.hid i u
  ·simp only[cond_false,af.avo,h.1.1,h.1.2,lP h.2,Bool.and_self]
  ·exact lP h.2
 |(.r t,e)::r,h=>by
  simp only[af.avo,Bool.and_eq_true]at h
  simp only[ng,af.avo,h.1.1,h.1.2,lP h.2,Bool.and_self]
def gT(i:Nat)(hp:Bool)(m:Nat)(done:List Ef)(H:af):af:=bif hp then ng i (cQ (fun k=>m.testBit k) done H)else[]
def uU(P:Program)(call:aU)(nt:Nat)(all:Array Oper)(ms:List Nat)(R H:af)(g:List F):List Oper→Nat→Nat→List Ef→Option (List Ef×Nat)
 |[],_,n,done=>some (done,n)
 |o::r,i,n,done=>
  let m:=ms.getD i 0
  match Xb P call nt all (t9 all.toList ms m i done R) (gT i (heapy o.op) m done H) n (qn (fun k=>m.testBit k) done g) i o with
  |some x=>uU P call nt all ms R H g r (i+1) x.n' (done++[x])
  |none=>none
def ta(n n':Nat):af→Bool
 |[]=>true
 |(.h id,_)::r=>Nat.ble n id&&(Nat.blt id n'&&ta n n' r)
 |_::_=>false
def wV(x:Ef)(lo hi:Nat):Bool:=x.c.avo lo hi&&(x.s.avo lo hi&&(F.avos lo hi x.fs&&af.avo lo hi x.pre))
def Xd(a b:Option Tmp):Bool:=
 match a with
 |some t=>!(MZ b t)
 |none=>true
def Xe(ms:List Nat)(x y:Ef):Bool:=!((ms.getD y.i 0).testBit x.i)&&!((ms.getD x.i 0).testBit y.i)
def uV(i n n':Nat):af→Bool
 |[]=>true
 |(.h id,_)::r=>((Nat.ble n id&&Nat.blt id n')||gG.hid i id)&&uV i n n' r
 |_::_=>false
def Cp(L:af):af→Bool
 |[]=>true
 |(k,_)::r=>!(cn k L)&&Cp L r
def tb(ms:List Nat)(x y:Ef):Bool:=
 Nat.beq x.i y.i||(!(Xe ms x y)||(Xd x.dst y.dst&&(((!y.heapy||uV y.i x.n x.n' x.pre)&&Cp x.pre y.pre)&&(Nat.beq y.n y.n'||wV x y.n y.n'))))
def wW(ms:List Nat):Bool:=(List.range ms.length).all fun i=>(List.range ms.length).all fun j=>!((ms.getD i 0).testBit j)||Nat.beq (ms.getD j 0|||ms.getD i 0) (ms.getD i 0)
def lQ:Nat→List Oper→Bool
 |_,[]=>true
 |i,o::r=>(o.after.toList.all fun e=>!(Region.binds .any e)||Nat.blt e.on i)&&lQ (i+1) r
omit [gG] in
theorem uW{L:af}{k:aO}:∀{M:af},Cp L M=true→cn k M=true→cn k L=false
 |[],_,h=>by cases h
 |(j,e)::r,g,h=>by
  simp only[Cp,Bool.and_eq_true,Bool.not_eq_true']at g
  simp only[cn,Bool.or_eq_true]at h
  rcases h with h|h
  ·rw[←aO.dJ.1 h];exact g.1
  ·exact uW g.2 h
theorem uX{i n n':Nat}:∀{L:af} {k:aO},uV i n n' L=true→cn k L=true→∃id,k=.h id∧((n≤id∧id<n')∨gG.hid i id=true)
 |[],k,_,h=>by cases h
 |(.r t,e)::r,k,g,h=>by cases g
 |(.h id,e)::r,k,g,h=>by
  simp only[uV,Bool.and_eq_true,Bool.or_eq_true]at g
  simp only[cn,Bool.or_eq_true]at h
  rcases h with h|h
  ·refine⟨id,(aO.dJ.1 h).symm,?_⟩
   rcases g.1 with g|g
   ·exact .inl ⟨Nat.le_of_ble_eq_true g.1,Nat.le_of_ble_eq_true g.2⟩
   ·exact .inr g
  ·exact uX g.2 h
def aa4(ms:List Nat)(efs:List Ef)(i id:Nat):Bool:=
 efs.any fun y=>Nat.beq y.i i&&efs.any fun x=>!(Nat.beq x.i i)&&(Xe ms x y&&(cn (.h id) x.pre&&!(Nat.ble x.n id&&Nat.blt id x.n')))
def a6l(P:Program)(call:aU):eK:=fun all n b amb nt=>
 let ms:=dV all.toList []
 match uU P call nt all ms b.R b.H (b.g++(b.pc++amb)) all.toList 0 n []with
 |some (efs,n')=>
  bif lQ 0 all.toList&&wW ms&&(efs.all fun x=>(x.heapy||ta x.n x.n' x.pre)&&efs.all fun y=>tb ms x y)then
   some (efs.flatMap (·.vcs),.lf (.normal,⟨qn (fun _=>true) efs b.g,b.pc,fc (fun _=>true) efs b.R,cQ (fun _=>true) efs b.H,cQ (fun _=>true) efs b.pre⟩),n')
  else none
 |none=>none
omit [gG] in
@[reducible] def N0:gG:=⟨fun _ _=>false⟩
omit [gG] in
def Xf(P:Program)(call:aU):eK:=fun all n b amb nt=>
 match @a6l _ N0 P call all n b amb nt with
 |some o=>some o
 |none=>
  let ms:=dV all.toList []
  match @uU _ N0 P call nt all ms b.R b.H (b.g++(b.pc++amb)) all.toList 0 n []with
  |some (efs,_)=>@a6l _ ⟨aa4 ms efs⟩ P call all n b amb nt
  |none=>none
def Xg(P:Program)(call:aU)(nt:Nat)(all:Array Oper)(ms:List Nat)(R H:af)(g:List F):List Oper→Nat→Nat→List Ef→Option BE
 |[],_,_,_=>none
 |o::r,i,n,done=>
  let m:=ms.getD i 0
  match Xb P call nt all (t9 all.toList ms m i done R) (gT i (heapy o.op) m done H) n (qn (fun k=>m.testBit k) done g) i o with
  |some x=>Xg P call nt all ms R H g r (i+1) x.n' (done++[x])
  |none=>l4 all (t9 all.toList ms m i done R) o
omit [gG] in
def drF(P:Program)(call:aU):eK:=fun all n b amb nt=>
 match Xf P call all n b amb nt with
 |some o=>some o
 |none=>
  match @Xg _ N0 P call nt all (dV all.toList []) b.R b.H (b.g++(b.pc++amb)) all.toList 0 n []with
  |some c=>bif c.avo n ay then
   match Xf P call all n {b with pc:=.be c::b.pc} amb nt with
   |some (v1,t1,n1)=>match Xf P call all n1 {b with pc:=.be (dj c)::b.pc} amb nt with
    |some (v2,t2,n2)=>some (v1++v2,.nd c t1 t2,n2)
    |none=>none
   |none=>none
   else none
  |none=>none
omit [gG] in
omit [gG] in
omit [gG] in
theorem wX{lo hi:Nat}:∀{L:af} {k:aO},af.avo lo hi L=true→cn k L=true→k.avo lo hi=true
 |[],k,_,h=>by cases h
 |(j,e)::r,k,g,h=>by
  simp only[af.avo,Bool.and_eq_true]at g
  simp only[cn,Bool.or_eq_true]at h
  rcases h with h|h
  ·rw[←aO.dJ.1 h];exact g.1.1
  ·exact wX g.2 h
structure ae3 (P:Program) (nt:Nat) (all:Array Oper) (ms:List Nat) (R H:af) (g:List F) (n n':Nat) (efs:List Ef):Prop where
 len:efs.length=all.toList.length
 le:n≤n'
 big:n'≤ay
 each:∀(k:Nat) (x:Ef),efs[k]? =some x→x.i=k∧n≤x.n∧x.n≤x.n'∧x.n'≤n'∧∃o,all.toList[k]? =some o∧x.heapy=heapy o.op∧
  Xc P nt all (t9 all.toList ms (ms.getD k 0) k (efs.take k) R) (gT k (heapy o.op) (ms.getD k 0) (efs.take k) H) (qn (fun j=>(ms.getD k 0).testBit j) (efs.take k) g) x.n o x
 mono:∀(k j:Nat) (x y:Ef),k<j→efs[k]? =some x→efs[j]? =some y→x.n'≤y.n
omit [gG] in
theorem tc{m:Nat}{p:Nat→Bool}:∀{l:List Ef} {b:af},(∀e,e∈l→e.c.avo m ay=true∧e.s.avo m ay=true)→af.avo m ay b=true→af.avo m ay (fc p l b)=true
 |[],b,_,hb=>hb
 |e::r,b,h,hb=>by
  simp only[fc]
  refine tc (fun e' he'=>h e' (.tail _ he')) ?_
  cases p e.i
  ·exact hb
  ·exact ja (h e (.head _)).1 (h e (.head _)).2 hb
omit [gG] in
theorem td{m:Nat}{p:Nat→Bool}:∀{l:List Ef} {b:af},(∀e,e∈l→af.avo m ay e.pre=true)→af.avo m ay b=true→af.avo m ay (cQ p l b)=true
 |[],b,_,hb=>hb
 |e::r,b,h,hb=>by
  simp only[cQ]
  refine td (fun e' he'=>h e' (.tail _ he')) ?_
  cases p e.i
  ·exact hb
  ·exact af.cH (h e (.head _)) hb
omit [gG] in
theorem te{m:Nat}{p:Nat→Bool}:∀{l:List Ef} {b:List F},(∀e,e∈l→F.avos m ay e.fs=true)→F.avos m ay b=true→F.avos m ay (qn p l b)=true
 |[],b,_,hb=>hb
 |e::r,b,h,hb=>by
  simp only[qn]
  refine te (fun e' he'=>h e' (.tail _ he')) ?_
  cases p e.i
  ·exact hb
  ·exact F.bt (h e (.head _)) hb
def Ef.ws(m:Nat)(x:Ef):Prop:=x.c.avo m ay=true∧x.s.avo m ay=true∧F.avos m ay x.fs=true∧af.avo m ay x.pre=true
omit [gG] in
theorem Xc.ws{P:Program}{nt:Nat}{all:Array Oper}{R H:af}{g:List F}{n:Nat}{o:Oper}{x:Ef}(h:Xc P nt all R H g n o x){m:Nat}(hm:x.n'≤m):x.ws m:=
 ⟨BE.ad (Nat.le_trans h.le hm) (Nat.le_refl _) _ h.cav,SV.ad hm (Nat.le_refl _) _ h.sav,F.aq hm (Nat.le_refl _) h.fav,af.ad hm (Nat.le_refl _) _ h.pav⟩
theorem tf{P:Program}{call:aU}(hcall:bI P call)(hN:iS P){nt:Nat}{all:Array Oper}{ms:List Nat}{R H:af}{g:List F}{n0:Nat}(hR:af.avo n0 ay R=true)(hH:af.avo n0 ay H=true)(hg:F.avos n0 ay g=true):
 ∀(rest:List Oper) (i n:Nat) (done efs:List Ef) (n':Nat),uU P call nt all ms R H g rest i n done=some (efs,n')→all.toList=(all.toList.take i)++rest→i=done.length→i≤all.toList.length→n0≤n→n≤ay→
  (∀(k:Nat) (x:Ef),done[k]? =some x→x.i=k∧n0≤x.n∧x.n≤x.n'∧x.n'≤n∧∃o,all.toList[k]? =some o∧x.heapy=heapy o.op∧
    Xc P nt all (t9 all.toList ms (ms.getD k 0) k (done.take k) R) (gT k (heapy o.op) (ms.getD k 0) (done.take k) H) (qn (fun j=>(ms.getD k 0).testBit j) (done.take k) g) x.n o x)→
  (∀(k j:Nat) (x y:Ef),k<j→done[k]? =some x→done[j]? =some y→x.n'≤y.n)→
  ae3 P nt all ms R H g n0 n' efs
 |[],i,n,done,efs,n',h,hl,hi,hil,h0,hn,hd,hm=>by
  simp only[uU,Option.some.injEq,Prod.mk.injEq]at h
  obtain⟨rfl,rfl⟩:=h
  refine⟨?_,h0,hn,hd,hm⟩
  rw[List.append_nil]at hl
  have:=congrArg List.length hl
  rw[List.length_take]at this
  omega
 |o::r,i,n,done,efs,n',h,hl,hi,hil,h0,hn,hd,hm=>by
  simp only[uU]at h
  split at h
  ·rename_i x hx
   have hws:∀e,e∈done→e.ws n:=by
    intro e he
    obtain⟨k,hk⟩:=List.getElem?_of_mem he
    obtain⟨_,_,_,h4,o',_,_,hok⟩:=hd k e hk
    exact hok.ws h4
   have hoi:all.toList[i]? =some o:=by
    rw[hl,List.getElem?_append_right (by simp;omega)]
    simp only[List.length_take]
    rw[Nat.min_eq_left hil,Nat.sub_self];rfl
   have hlt:i<all.toList.length:=(List.getElem?_eq_some_iff.1 hoi).1
   have hok:=a6j hcall hN hx
    (af.jO _ (tc (fun e he=>⟨(hws e he).1,(hws e he).2.1⟩) (af.ad h0 (Nat.le_refl _) R hR)))
    (by
      unfold gT
      cases heapy o.op
      ·rfl
      ·exact lP (td (fun e he=>(hws e he).2.2.2) (af.ad h0 (Nat.le_refl _) H hH)))
    (te (fun e he=>(hws e he).2.2.1) (F.aq h0 (Nat.le_refl _) hg)) hn
   have hxi:x.i=i∧x.heapy=heapy o.op:=by
    have h:=hx
    unfold Xb at h
    cases hdo:sU nt o.dst
    ·simp only[hdo,Bool.not_false,cond_true]at h;cases h
    simp only[hdo,Bool.not_true,cond_false]at h
    split at h
    ·obtain rfl:=Option.some.inj h;exact⟨rfl,rfl⟩
    split at h
    ·cases h
    ·obtain rfl:=Option.some.inj h;exact⟨rfl,rfl⟩
    ·split at h
     ·obtain rfl:=Option.some.inj h;exact⟨rfl,rfl⟩
     ·cases h
    ·split at h
     ·rename_i vcs fs s pre n1 hst
      cases hfk:jN n pre
      ·rw[hfk]at h;cases h
      ·rw[hfk]at h;obtain rfl:=Option.some.inj h;exact⟨rfl,rfl⟩
     ·cases h
   have hxn:=hok.xn
   refine tf hcall hN hR hH hg r (i+1) x.n' (done++[x]) efs n' h ?_ (by simp[hi]) (by omega) (by have:=hok.le;omega) hok.big ?_ ?_
   ·rw[List.take_add_one,hoi]
    simp only[Option.toList,List.append_assoc,List.singleton_append]
    exact hl
   ·intro k y hy
    by_cases hk:k<done.length
    ·rw[List.getElem?_append_left hk]at hy
     obtain⟨e1,e2,e3,e4,o',e5,e6,e7⟩:=hd k y hy
     refine⟨e1,e2,e3,by have:=hok.le;omega,o',e5,e6,?_⟩
     rw[List.take_append_of_le_length (by omega)]
     exact e7
    ·have hk2:k=done.length:=by
      have:=(List.getElem?_eq_some_iff.1 hy).1
      simp at this;omega
     subst hk2
     rw[List.getElem?_append_right (Nat.le_refl _),Nat.sub_self]at hy
     obtain rfl:=Option.some.inj hy
     refine⟨by rw[hxi.1,hi],by omega,by rw[hxn];exact hok.le,Nat.le_refl _,o,by rw[←hi];exact hoi,hxi.2,?_⟩
     rw[List.take_append_of_le_length (Nat.le_refl _),List.take_length,hxn,←hi]
     exact hok
   ·intro k j y z hkj hy hz
    by_cases hj:j<done.length
    ·rw[List.getElem?_append_left hj]at hz
     rw[List.getElem?_append_left (by omega)]at hy
     exact hm k j y z hkj hy hz
    ·have hj2:j=done.length:=by
      have:=(List.getElem?_eq_some_iff.1 hz).1
      simp at this;omega
     subst hj2
     rw[List.getElem?_append_right (Nat.le_refl _),Nat.sub_self]at hz
     obtain rfl:=Option.some.inj hz
     rw[List.getElem?_append_left hkj]at hy
     obtain⟨_,_,_,h4,_⟩:=hd k y hy
     omega
  ·cases h
end
section
variable [cg] [Fm]
theorem nI{p:Nat→Bool}:∀{l m:List Ef} {b:af},fc p (l++m) b=fc p m (fc p l b)
 |[],m,b=>rfl
 |e::r,m,b=>by simp only[List.cons_append,fc];exact nI
theorem nJ{p:Nat→Bool}:∀{l m:List Ef} {b:af},cQ p (l++m) b=cQ p m (cQ p l b)
 |[],m,b=>rfl
 |e::r,m,b=>by simp only[List.cons_append,cQ];exact nJ
theorem lR{p:Nat→Bool}{t:Nat}:∀{l:List Ef} {b:af},(∀e,e∈l→p e.i=true→e.dst≠some t)→ai (.r t) (fc p l b)=ai (.r t) b
 |[],b,h=>rfl
 |e::r,b,h=>by
  simp only[fc]
  rw[lR (fun e' he'=>h e' (.tail _ he'))]
  cases hp:p e.i
  ·rfl
  ·have hd:=h e (.head _) hp
   simp only[cond_true]
   cases he:e.dst with
   |none=>rfl
   |some d=>simp only[gO];rw[ak,if_neg (fun e'=>hd (by rw[he,aO.r.inj e']))]
theorem lS{p:Nat→Bool}{k:aO}:∀{l:List Ef} {b:af},(∀e,e∈l→p e.i=true→cn k e.pre=false)→ai k (cQ p l b)=ai k b
 |[],b,h=>rfl
 |e::r,b,h=>by
  simp only[cQ]
  rw[lS (fun e' he'=>h e' (.tail _ he'))]
  cases hp:p e.i
  ·rfl
  ·have hd:=h e (.head _) hp
   simp only[cond_true]
   rw[cG,if_neg (by rw[hd];decide)]
theorem jb{k:aO}{v:aY}:∀{L:af},ai k L=some v→cn k L=true:=by
 intro L h
 cases hk:cn k L
 ·rw[qo hk]at h;cases h
 ·rfl
theorem tg{p:Nat→Bool}{k:aO}{v:aY}:∀{l:List Ef} {b:af},ai k (cQ p l b)=some v→ai k b=some v∨∃e,e∈l∧p e.i=true∧ai k e.pre=some v
 |[],b,h=> .inl h
 |e::r,b,h=>by
  simp only[cQ]at h
  rcases tg h with h|⟨e',he',h⟩
  ·cases hp:p e.i
   ·rw[hp]at h;exact .inl h
   ·rw[hp]at h
    simp only[cond_true,cG]at h
    split at h
    ·exact .inr ⟨e,.head _,hp,h⟩
    ·exact .inl h
  ·exact .inr ⟨e',.tail _ he',h⟩
theorem Cq{p:Nat→Bool}{t:Nat}{v:aY}:∀{l:List Ef} {b:af},ai (.r t) (fc p l b)=some v→ai (.r t) b=some v∨∃e,e∈l∧p e.i=true∧e.dst=some t∧v=.reg e.c e.s
 |[],b,h=> .inl h
 |e::r,b,h=>by
  simp only[fc]at h
  rcases Cq h with h|⟨e',he',h⟩
  ·cases hp:p e.i
   ·rw[hp]at h;exact .inl h
   ·rw[hp]at h
    simp only[cond_true]at h
    cases hd:e.dst with
    |none=>rw[hd]at h;exact .inl h
    |some d=>
     rw[hd]at h
     simp only[gO]at h
     rw[ak]at h
     by_cases hk:aO.r d=aO.r t
     ·rw[if_pos hk]at h
      exact .inr ⟨e,.head _,hp,by rw[hd,aO.r.inj hk],(Option.some.inj h).symm⟩
     ·rw[if_neg hk]at h;exact .inl h
  ·exact .inr ⟨e',.tail _ he',h⟩
theorem oh:∀{l:List Oper} {i0:Nat},lQ i0 l=true→∀(k:Nat) (o:Oper),l[k]? =some o→∀e,e∈o.after.toList→Region.binds .any e=true→e.on<i0+k
 |[],i0,h,k,o,ho,_,_,_=>by simp at ho
 |x::r,i0,h,k,o,ho,e,he,hb=>by
  simp only[lQ,Bool.and_eq_true]at h
  cases k with
  |zero=>
   obtain rfl:=Option.some.inj ho
   have:=List.all_eq_true.1 h.1 e he
   rw[hb]at this
   simp only[Bool.not_true,Bool.false_or]at this
   have:e.on+1≤i0:=Nat.le_of_ble_eq_true this
   omega
  |succ k=>
   have:=oh h.2 k o (by simpa using ho) e he hb
   omega
section
variable [gG]
variable {P : Program} {nt : Nat} {all : Array Oper} {R H : af} {g : List F} {n n' : Nat} {efs : List Ef}
structure n7 (P:Program) (nt:Nat) (all:Array Oper) (R H:af) (g:List F) (n n':Nat) (efs:List Ef):Prop where
 told:ae3 P nt all (dV all.toList []) R H g n n' efs
 edges:lQ 0 all.toList=true
 trans:wW (dV all.toList [])=true
 kind:∀x,x∈efs→x.heapy=true∨ta x.n x.n' x.pre=true
 pairs:∀x y,x∈efs→y∈efs→tb (dV all.toList []) x y=true
 rav:af.avo n ay R=true
 hav:af.avo n ay H=true
 gav:F.avos n ay g=true
def l9(all:Array Oper)(i:Nat):Nat:=(dV all.toList []).getD i 0
structure P1 (all:Array Oper) (S:Nat→Bool) (i:Nat):Prop where
 down:OZ all.toList S
 new:S i=false
 ahead:∀o,all.toList[i]? =some o→∀e,e∈o.after.toList→Region.binds .any e=true→S e.on=true
theorem Xh(all:Array Oper){i:Nat}(hi:i<all.toList.length):(dV all.toList [])[i]? =some (l9 all i):=by
 have:i<(dV all.toList []).length:=by rw[qm];simpa using hi
 unfold l9
 rw[List.getD_eq_getElem?_getD,List.getElem?_eq_getElem this];rfl
theorem th{S:Nat→Bool}{i:Nat}(hS:OZ all.toList S)(hi:i<all.toList.length)(ha:∀o,all.toList[i]? =some o→∀e,e∈o.after.toList→Region.binds .any e=true→S e.on=true){j:Nat}(hj:(l9 all i).testBit j=true):S j=true:=
 qN hS all.toList [] [] rfl rfl (fun i m hm=>by simp at hm) i _ (Xh all hi) ha j hj
theorem a6m{S:Nat→Bool}{i:Nat}(hS:OZ all.toList S)(hi:i<all.toList.length)(hSi:S i=true){j:Nat}(hj:(l9 all i).testBit j=true):S j=true:=
 th hS hi (fun o ho e he hb=>hS i o ho hSi e he hb) hj
theorem qp(F1:n7 P nt all R H g n n' efs){i:Nat}(hi:i<all.toList.length){j:Nat}(hj:(l9 all i).testBit j=true):j<i:=by
 have hd:OZ all.toList (fun k=>decide (k<i)):=by
  intro k o ho hk e he hb
  have:=oh F1.edges k o ho e he hb
  have hk':=of_decide_eq_true hk
  exact decide_eq_true (by omega)
 have:=th hd hi (fun o ho e he hb=>decide_eq_true (by have:=oh F1.edges i o ho e he hb;omega)) hj
 exact of_decide_eq_true this
theorem P2(F1:n7 P nt all R H g n n' efs){i j k:Nat}(hi:i<all.toList.length)(hj:j<all.toList.length)(h1:(l9 all i).testBit j=true)(h2:(l9 all j).testBit k=true):(l9 all i).testBit k=true:=by
 have hlen:(dV all.toList []).length=all.toList.length:=by rw[qm];simp
 have:=List.all_eq_true.1 (List.all_eq_true.1 F1.trans i (by rw[List.mem_range];omega)) j (by rw[List.mem_range];omega)
 simp only[Bool.or_eq_true]at this
 rcases this with h|h
 ·unfold l9 at h1;rw[h1]at h;cases h
 ·have:=Nat.eq_of_beq_eq_true h
  unfold l9 at*
  rw[←this,Nat.testBit_or,h2];rfl
theorem di(F1:n7 P nt all R H g n n' efs){e:Ef}(he:e∈efs):efs[e.i]? =some e∧e.i<all.toList.length:=by
 obtain⟨k,hk⟩:=List.getElem?_of_mem he
 have h1:=(F1.told.each k e hk).1
 have hlt:=(List.getElem?_eq_some_iff.1 hk).1
 rw[h1]
 exact⟨hk,by rw[←F1.told.len];exact hlt⟩
theorem ti(F1:n7 P nt all R H g n n' efs){e:Ef}(he:e∈efs):n≤e.n∧e.n≤e.n'∧e.n'≤n'∧e.ws e.n':=by
 obtain⟨h1,h2⟩:=di F1 he
 obtain⟨_,a,b,c,o,_,_,hok⟩:=F1.told.each e.i e h1
 exact⟨a,b,c,hok.ws (Nat.le_refl _)⟩
theorem oi(F1:n7 P nt all R H g n n' efs){x y:Ef}(hx:x∈efs)(hy:y∈efs)(hne:x.i≠y.i)(h1:¬(l9 all y.i).testBit x.i=true)(h2:¬(l9 all x.i).testBit y.i=true):
 Xd x.dst y.dst=true∧((y.heapy=false∨uV y.i x.n x.n' x.pre=true)∧Cp x.pre y.pre=true)∧(y.n=y.n'∨wV x y.n y.n'=true):=by
 have h:=F1.pairs x y hx hy
 unfold tb at h
 simp only[Bool.or_eq_true]at h
 rcases h with h|h|h
 ·exact absurd (Nat.eq_of_beq_eq_true h) hne
 ·unfold Xe at h
  unfold l9 at h1 h2
  have h1':=Bool.eq_false_iff.2 h1
  have h2':=Bool.eq_false_iff.2 h2
  rw[h1',h2']at h
  cases h
 ·simp only[Bool.and_eq_true,Bool.or_eq_true,Bool.not_eq_true']at h
  refine⟨h.1,h.2.1,?_⟩
  rcases h.2.2 with g|g
  ·exact .inl (Nat.eq_of_beq_eq_true g)
  ·exact .inr g
theorem jQ(F1:n7 P nt all R H g n n' efs){S:Nat→Bool}{x e:Ef}(hx:x∈efs)(he:e∈efs)(h:P1 all S x.i)(hSe:S e.i=true):
 e.i≠x.i∧¬(l9 all e.i).testBit x.i=true:=by
 obtain⟨_,hxi⟩:=di F1 hx
 obtain⟨_,hei⟩:=di F1 he
 refine⟨fun e'=>(by rw[e',h.new]at hSe;cases hSe),fun hb=>?_⟩
 have:=a6m h.down hei hSe hb
 rw[h.new]at this;cases this
theorem b7.whole{lo hi:Nat}{ρ σ:ap}(h:b7 lo hi ρ σ)(he:hi≤lo)(a b:Nat):b7 a b ρ σ:=by
 constructor<;>intro v _
 ·exact h.i v (by omega)
 ·exact h.b v (by omega)
 ·exact h.k v (by omega)
 ·exact h.f v (by omega)
 ·exact h.l v (by omega)
 ·exact h.x v (by omega)
 ·exact h.y v (by omega)
theorem tj(F1:n7 P nt all R H g n n' efs){S:Nat→Bool}{x e:Ef}(hx:x∈efs)(he:e∈efs)(h:P1 all S x.i)(hSe:S e.i=true){ρ σ:ap}(hagr:b7 x.n x.n' ρ σ):
 ∃lo hi,b7 lo hi ρ σ∧wV e lo hi=true:=by
 obtain⟨hne,hnb⟩:=jQ F1 hx he h hSe
 have hxe:=di F1 hx
 have hee:=di F1 he
 have hew:=(ti F1 he).2.2.2
 have hxo:=ti F1 hx
 have hbig:=F1.told.big
 by_cases hlt:e.i<x.i
 ·have hm:=F1.told.mono e.i x.i e x hlt hee.1 hxe.1
  refine⟨e.n',x.n',hagr.mono hm (Nat.le_refl _),?_⟩
  simp only[wV,Bool.and_eq_true]
  have hb:x.n'≤ay:=by omega
  exact⟨BE.ad (Nat.le_refl _) hb _ hew.1,SV.ad (Nat.le_refl _) hb _ hew.2.1,F.aq (Nat.le_refl _) hb hew.2.2.1,af.ad (Nat.le_refl _) hb _ hew.2.2.2⟩
 ·have hgt:x.i<e.i:=by omega
  have hno:¬(l9 all x.i).testBit e.i=true:=fun hb=>by have:=qp F1 hxe.2 hb;omega
  obtain⟨_,_,h3⟩:=oi F1 he hx hne hno hnb
  rcases h3 with h3|h3
  ·refine⟨e.n',ay,hagr.whole (by omega) _ _,?_⟩
   simp only[wV,Bool.and_eq_true]
   exact⟨hew.1,hew.2.1,hew.2.2.1,hew.2.2.2⟩
  ·exact⟨x.n,x.n',hagr,h3⟩
theorem um(F1:n7 P nt all R H g n n' efs){e:Ef}(he:e∈efs){id:Nat}(h1:e.n≤id)(h2:id<e.n'){j:Ef}(hj:j∈efs)(hne:j.i≠e.i)(hno:¬(l9 all j.i).testBit e.i=true):cn (.h id) j.pre=false:=by
 cases hk:cn (.h id) j.pre
 ·rfl
 ·exfalso
  have hje:=di F1 hj
  have hee:=di F1 he
  have hjw:=(ti F1 hj).2.2.2
  have heo:=ti F1 he
  have hbig:=F1.told.big
  by_cases hb:(l9 all e.i).testBit j.i=true
  ·have hlt:=qp F1 hee.2 hb
   have hm:=F1.told.mono j.i e.i j e hlt hje.1 hee.1
   have:=aF (wX hjw.2.2.2 hk)
   omega
  ·obtain⟨_,_,h3⟩:=oi F1 hj he hne hb hno
   rcases h3 with h3|h3
   ·omega
   ·simp only[wV,Bool.and_eq_true]at h3
    have:=aF (wX h3.2.2.2 hk)
    omega
theorem lT(F1:n7 P nt all R H g n n' efs){x:Ef}(hx:x∈efs):efs=efs.take x.i++x::efs.drop (x.i+1):=by
 have h:=(di F1 hx).1
 have hlt:=(List.getElem?_eq_some_iff.1 h).1
 have:=List.getElem_cons_drop hlt
 rw[(List.getElem?_eq_some_iff.1 h).2]at this
 rw[this,List.take_append_drop]
theorem rV(F1:n7 P nt all R H g n n' efs){i:Nat}{e:Ef}(he:e∈efs.take i):e∈efs∧e.i<i:=by
 obtain⟨k,hk⟩:=List.getElem?_of_mem he
 have hki:k<i:=by
  have:=(List.getElem?_eq_some_iff.1 hk).1
  rw[List.length_take]at this;omega
 rw[List.getElem?_take_of_lt hki]at hk
 exact⟨List.mem_of_getElem? hk,by rw[(F1.told.each k e hk).1];exact hki⟩
theorem rW(F1:n7 P nt all R H g n n' efs){i:Nat}{e:Ef}(he:e∈efs.drop (i+1)):e∈efs∧i<e.i:=by
 obtain⟨k,hk⟩:=List.getElem?_of_mem he
 rw[List.getElem?_drop]at hk
 exact⟨List.mem_of_getElem? hk,by rw[(F1.told.each _ e hk).1];omega⟩
theorem P3(F1:n7 P nt all R H g n n' efs){S:Nat→Bool}{x:Ef}(hx:x∈efs)(h:P1 all S x.i){t:Nat}{v:aY}
 (hl:ai (.r t) (t9 all.toList (dV all.toList []) (l9 all x.i) x.i (efs.take x.i) R)=some v):ai (.r t) (fc S efs R)=some v:=by
 have hxe:=di F1 hx
 have hfilt:∀(M:af) (p:aO×aY→Bool),ai (.r t) (M.filter p)=some v→(∀e:aY,p (.r t,e)=p (.r t,v))→p (.r t,v)=true∧ai (.r t) M=some v:=by
  intro M p
  induction M with
  |nil=>intro h;simp[ai]at h
  |cons y M ih=>
   intro h hp
   obtain⟨k,e⟩:=y
   by_cases hk:k=.r t
   ·subst hk
    cases hpe:p (.r t,e)
    ·rw[List.filter_cons_of_neg (by rw[hpe];decide)]at h
     obtain⟨h1,_⟩:=ih h hp
     rw[←hp e,hpe]at h1;cases h1
    ·rw[List.filter_cons_of_pos hpe,bT]at h
     obtain rfl:=Option.some.inj h
     exact⟨hpe,bT _ _ _⟩
   ·rw[sy hk]
    cases hpe:p (k,e)
    ·rw[List.filter_cons_of_neg (by rw[hpe];decide)]at h;exact ih h hp
    ·rw[List.filter_cons_of_pos hpe,sy hk]at h;exact ih h hp
 obtain⟨hok,hl'⟩:=hfilt _ _ hl (fun _=>rfl)
 simp only at hok
 have hto:∀e,e∈efs→e.dst=some t→e.i=x.i∨(l9 all x.i).testBit e.i=true∨(l9 all e.i).testBit x.i=true:=by
  intro e he hd
  have hee:=di F1 he
  obtain⟨_,_,_,_,o,ho,_,hefok⟩:=F1.told.each e.i e hee.1
  have:=Co (by simpa using hok) e.i o ho (by rw[←hefok.dst];exact hd)
  rw[Nat.zero_add]at this
  exact this
 rw[←hl']
 have hsplit:fc S efs R=fc S (x::efs.drop (x.i+1)) (fc S (efs.take x.i) R):=by
  conv=>lhs;rw[lT F1 hx]
  exact nI
 rw[hsplit,lR]
 ·refine lO (fun e he hd=>?_) rfl
  obtain⟨he1,he2⟩:=rV F1 he
  rcases hto e he1 hd with g|g|g
  ·omega
  ·rw[g,th h.down hxe.2 h.ahead g]
  ·exfalso;have:=qp F1 (di F1 he1).2 g;omega
 ·intro e he hSe hd
  have he1:e∈efs∧x.i≤e.i:=by
   cases he with
   |head=>exact⟨hx,Nat.le_refl _⟩
   |tail _ he=>have:=rW F1 he;exact⟨this.1,by omega⟩
  rcases hto e he1.1 hd with g|g|g
  ·rw[g,h.new]at hSe;cases hSe
  ·have:=qp F1 hxe.2 g;omega
  ·exact absurd g (jQ F1 hx he1.1 h hSe).2
theorem P4(F1:n7 P nt all R H g n n' efs){S:Nat→Bool}{x:Ef}(hx:x∈efs)(h:P1 all S x.i){id:Nat}{v:aY}
 (hl:ai (.h id) (gT x.i x.heapy (l9 all x.i) (efs.take x.i) H)=some v):ai (.h id) (cQ S efs H)=some v:=by
 have hxe:=di F1 hx
 unfold gT at hl
 cases hhp:x.heapy
 ·rw[hhp]at hl;simp[ai]at hl
 rw[hhp]at hl
 simp only[cond_true]at hl
 obtain⟨hsh,hl⟩:=jP hl
 have key:∀e,e∈efs→S e.i=true→¬(l9 all x.i).testBit e.i=true→cn (.h id) e.pre=false:=by
  intro e he hSe hna
  cases hk:cn (.h id) e.pre
  ·rfl
  ·exfalso
   obtain⟨hne,hnb⟩:=jQ F1 hx he h hSe
   obtain⟨_,h2,_⟩:=oi F1 he hx hne hna hnb
   have hfr:uV x.i e.n e.n' e.pre=true:=h2.1.resolve_left (by rw[hhp];decide)
   obtain⟨id',hid',hcase⟩:=uX hfr hk
   obtain rfl:=aO.h.inj hid'
   rcases hcase with⟨hlo,hhi⟩|hcase
   rotate_left
   ·rw[hsh]at hcase;cases hcase
   have heo:=ti F1 he
   have hbig:=F1.told.big
   rcases tg hl with hb|⟨j,hj,hja,hjl⟩
   ·have:=aF (af.al F1.hav hb).1
    omega
   ·obtain⟨hj1,hj2⟩:=rV F1 hj
    have hje:=di F1 hj1
    have:=um F1 he hlo hhi hj1 (fun e'=>hna (by rw[←e'];exact hja)) (fun hb=>hna (P2 F1 hxe.2 hje.2 hja hb))
    rw[jb hjl]at this;cases this
 rw[←hl]
 have hsplit:cQ S efs H=cQ S (x::efs.drop (x.i+1)) (cQ S (efs.take x.i) H):=by
  conv=>lhs;rw[lT F1 hx]
  exact nJ
 rw[hsplit,lS]
 ·refine lN (fun e he hd=>?_) rfl
  obtain⟨he1,he2⟩:=rV F1 he
  cases hb:(l9 all x.i).testBit e.i
  ·cases hSe:S e.i
   ·rfl
   ·rw[key e he1 hSe (by rw[hb];decide)]at hd;cases hd
  ·exact th h.down hxe.2 h.ahead hb
 ·intro e he hSe
  have he1:e∈efs∧x.i≤e.i:=by
   cases he with
   |head=>exact⟨hx,Nat.le_refl _⟩
   |tail _ he=>have:=rW F1 he;exact⟨this.1,by omega⟩
  exact key e he1.1 hSe (fun hb=>by have:=qp F1 hxe.2 hb;omega)
end
end
section
variable [cg] [Fm]
variable [gG]
def la(S:Nat→Bool)(i:Nat)(k:Nat):Bool:=Nat.beq k i||S k
theorem fl(S:Nat→Bool)(i:Nat):la S i i=true:=by simp[la,Nat.beq_refl]
theorem cR{S:Nat→Bool}{i k:Nat}(h:k≠i):la S i k=S k:=by
 have:Nat.beq k i=false:=by
  cases hh:Nat.beq k i
  ·rfl
  ·exact absurd (Nat.eq_of_beq_eq_true hh) h
 simp[la,this]
structure Cr (C:bp) (nt:Nat) (ρ0:ap) (n n':Nat) (efs:List Ef) (R H:af) (g:List F) (S:Nat→Bool) (ρ:ap) (a:Act) (w:World):Prop where
 agr:b7 n n' ρ0 ρ
 g:ar ρ (qn S efs g)
 hd:HD C ρ (cQ S efs H) w
 rd:RD nt ρ (fc S efs R) a
theorem Hm{P:Program}{nt:Nat}{all:Array Oper}{R H:af}{g:List F}{n n':Nat}{efs:List Ef}(F1:n7 P nt all R H g n n' efs){C:bp}{ρ0:ap}(hvcs:∀x,x∈efs→ab x.vcs){S:Nat→Bool}{x:Ef}(hx:x∈efs)(h:P1 all S x.i)
 {ρ:ap} {a:Act} {w:World} (st:Cr C nt ρ0 n n' efs R H g S ρ a w) (Q:Exit→Act→World→Prop):
 wpOpIn (FC Fm.ro) 9 P all Q x.i (fun a' w'=>∃σ,Cr C nt ρ0 n n' efs R H g (la S x.i) σ a' w') a w:=by
 have hxe:=di F1 hx
 have hxo:=ti F1 hx
 have hbig:=F1.told.big
 obtain⟨_,_,_,_,o,ho,hheap,hok⟩:=F1.told.each x.i x hxe.1
 rw[show(dV all.toList []).getD x.i 0=l9 all x.i from rfl,←hheap]at hok
 have hH:∀id r,ai (.h id) (gT x.i x.heapy (l9 all x.i) (efs.take x.i) H)=some r→ai (.h id) (cQ S efs H)=some r:=fun id r hl=>P4 F1 hx h hl
 let C':bp:=⟨w,fun b=>C.keep b∨(∃id r,ai (.h id) (cQ S efs H)=some (.row false r)∧r.owns ρ id b)∨∃id r,ai (.h id) (cQ S efs H)=some (.row true r)∧(∀r',ai (.h id) (gT x.i x.heapy (l9 all x.i) (efs.take x.i) H)≠some (.row true r'))∧r.owns ρ id b,
  fun b=>C.sh b∨∃id r,ai (.h id) (cQ S efs H)=some (.row false r)∧r.owns ρ id b⟩
 have hkeep:∀b,C'.keep b→b<w.heap.size:=by
  intro b hb
  rcases hb with hb|⟨id,r,hl,hb⟩|⟨id,r,hl,_,hb⟩
  ·exact st.hd.keep_lt hb
  ·exact st.hd.lt hl hb
  ·exact st.hd.lt hl hb
 have hd1:HD C' ρ (gT x.i x.heapy (l9 all x.i) (efs.take x.i) H) w:=by
  refine⟨fun id o r hl=>st.hd.rows id o r (hH _ _ hl),fun id r hl b hb=>?_,fun id r hl b hb=> .inl (.inr ⟨id,r,hH _ _ hl,hb⟩),fun i j r s hi hj=>st.hd.dis i j r s (hH _ _ hi) (hH _ _ hj),fun i j r s hij hi hj=>st.hd.sep i j r s hij (hH _ _ hi) (hH _ _ hj),
   ⟨rfl,rfl,rfl,Nat.le_refl _,fun b hb=>⟨hkeep b hb,rfl⟩,fun b hb=>hb.elim (fun h=> .inl (st.hd.fr.shk b h)) (fun h=> .inr (.inl h))⟩⟩
  rintro(hk|⟨id2,r2,hl2,hb2⟩|⟨id2,r2,hl2,hno,hb2⟩)
  ·exact st.hd.own id r (hH _ _ hl) b hb hk
  ·exact st.hd.dis id2 id r2 r hl2 (hH _ _ hl) b hb2 hb
  ·have hne:id≠id2:=fun e=>by subst e;exact hno r hl
   exact st.hd.sep id id2 r r2 hne (hH _ _ hl) hl2 b hb hb2
 have rd1:RD nt ρ (t9 all.toList (dV all.toList []) (l9 all x.i) x.i (efs.take x.i) R) a:=⟨st.rd.defers,st.rd.size,fun t c s hl=>st.rd.regs t c s (P3 F1 hx h hl)⟩
 have g1:ar ρ (qn (fun j=>(l9 all x.i).testBit j) (efs.take x.i) g):=by
  intro f hf
  refine st.g f (cU.2 ?_)
  rcases cU.1 hf with hf|⟨e,he,hb,hf⟩
  ·exact .inl hf
  ·exact .inr ⟨e,(rV F1 he).1,th h.down hxe.2 h.ahead hb,hf⟩
 refine hok.run (hvcs x hx) C' ρ a w g1 hd1 rd1 x.i (by rw[←Array.getElem?_toList];exact ho) _ Q fun σ w' hagr hfs hd2=>?_
 have later:∀e,e∈efs→S e.i=true→x.i<e.i→¬(l9 all x.i).testBit e.i=true∧¬(l9 all e.i).testBit x.i=true∧e.i≠x.i:=by
  intro e he hSe hlt
  obtain⟨h1,h2⟩:=jQ F1 hx he h hSe
  exact⟨fun hb=>by have:=qp F1 hxe.2 hb;omega,h2,h1⟩
 have hlookH1:∀id,cn (.h id) x.pre=true→ai (.h id) (cQ (la S x.i) efs H)=ai (.h id) x.pre:=by
  intro id hk
  have hsplit:cQ (la S x.i) efs H=cQ (la S x.i) (efs.drop (x.i+1)) (x.pre++cQ (la S x.i) (efs.take x.i) H):=by
   conv=>lhs;rw[lT F1 hx]
   rw[nJ]
   simp only[cQ,fl,cond_true]
  rw[hsplit,lS]
  ·rw[cG,if_pos hk]
  ·intro e he hSe
   obtain⟨he1,he2⟩:=rW F1 he
   rw[cR (by omega)]at hSe
   obtain⟨l1,l2,l3⟩:=later e he1 hSe he2
   cases hke:cn (.h id) e.pre
   ·rfl
   ·exfalso
    obtain⟨_,p2,_⟩:=oi F1 hx he1 (fun e'=>l3 e'.symm) l2 l1
    have:=uW p2.2 hke
    rw[hk]at this;cases this
 have hlookH2:∀id,cn (.h id) x.pre=false→ai (.h id) (cQ (la S x.i) efs H)=ai (.h id) (cQ S efs H):=by
  intro id hk
  refine lN (fun e he hke=>?_) rfl
  by_cases hex:e.i=x.i
  ·have:e=x:=by
    have h1:=(di F1 he).1
    rw[hex,hxe.1]at h1
    exact(Option.some.inj h1).symm
   subst this;rw[hk]at hke;cases hke
  ·exact cR hex
 have old:∀id v,ai (.h id) (cQ S efs H)=some v→∃lo hi,b7 lo hi ρ σ∧(aO.h id).avo lo hi=true∧v.avo lo hi=true:=by
  intro id v hl
  rcases tg hl with hl|⟨e,he,hSe,hl⟩
  ·have:=af.al F1.hav hl
   exact⟨n,x.n',hagr.mono hxo.1 (Nat.le_refl _),aO.ad (Nat.le_refl _) (by omega) _ this.1,aY.ad (Nat.le_refl _) (by omega) _ this.2⟩
  ·obtain⟨lo,hi,ha,hav⟩:=tj F1 hx he h hSe hagr
   simp only[wV,Bool.and_eq_true]at hav
   have:=af.al hav.2.2.2 hl
   exact⟨lo,hi,ha,this.1,this.2⟩
 have inside:∀id v,ai (.h id) (x.pre++gT x.i x.heapy (l9 all x.i) (efs.take x.i) H)=some v→ai (.h id) (cQ (la S x.i) efs H)=some v:=by
  intro id v hl
  rw[cG]at hl
  cases hk:cn (.h id) x.pre
  ·rw[hk,if_neg (by decide)]at hl
   rw[hlookH2 id hk];exact hH id v hl
  ·rw[hk,if_pos rfl]at hl
   rw[hlookH1 id hk];exact hl
 have parts:∀id ow r,ai (.h id) (cQ (la S x.i) efs H)=some (.row ow r)→
  ai (.h id) (x.pre++gT x.i x.heapy (l9 all x.i) (efs.take x.i) H)=some (.row ow r)∨
  (ai (.h id) (cQ S efs H)=some (.row ow r)∧(ow=true→∀r',ai (.h id) (gT x.i x.heapy (l9 all x.i) (efs.take x.i) H)≠some (.row true r'))):=by
  intro id ow r hl
  cases hk:cn (.h id) x.pre
  ·rw[hlookH2 id hk]at hl
   by_cases hin:∃r',ai (.h id) (gT x.i x.heapy (l9 all x.i) (efs.take x.i) H)=some (.row ow r')
   ·obtain⟨r',hr'⟩:=hin
    have:=hH id _ hr'
    rw[hl]at this
    obtain⟨_,rfl⟩:=aY.row.inj (Option.some.inj this)
    refine .inl ?_
    rw[cG,hk,if_neg (by decide)];exact hr'
   ·refine .inr ⟨hl,fun ho r' hr'=>hin ⟨r',by rw[ho];exact hr'⟩⟩
  ·rw[hlookH1 id hk]at hl
   refine .inl ?_
   rw[cG,hk,if_pos rfl];exact hl
 have ownsS:∀id ow r,ai (.h id) (cQ S efs H)=some (.row ow r)→∀b,r.owns σ id b↔r.owns ρ id b:=by
  intro id ow r hl b
  obtain⟨lo,hi,ha,hk,hv⟩:=old id _ hl
  exact am.ce ha hk hv b
 have stay:∀b,C'.keep b→w'.heap[b]? =w.heap[b]? :=fun b hb=>(hd2.fr.keep b hb).2
 refine⟨σ,st.agr.trans (hagr.mono hxo.1 hxo.2.2.1) (Nat.le_refl _) (Nat.le_refl _),fun f hf=>?_,⟨fun id ow r hl=>?_,fun id r hl b hb=>?_,fun id r hl b hb=>?_,fun i j r s hi hj b hb1 hb2=>?_,fun i j r s hij hi hj b hb1 hb2=>?_,?_⟩,?_⟩
 ·rcases cU.1 hf with hf1|⟨e,he,hb,hfe⟩
  ·have hfa:=List.all_eq_true.1 F1.gav f hf1
   exact(F.dp (hagr.mono hxo.1 (Nat.le_refl _)) f (F.ad (Nat.le_refl _) (by omega) f hfa)).2 (st.g f (cU.2 (.inl hf1)))
  ·by_cases hex:e.i=x.i
   ·have hexx:e=x:=by
     have h1:=(di F1 he).1
     rw[hex,hxe.1]at h1
     exact(Option.some.inj h1).symm
    rw[hexx]at hfe;exact hfs f hfe
   ·rw[cR hex]at hb
    obtain⟨lo,hi,ha,hav⟩:=tj F1 hx he h hb hagr
    simp only[wV,Bool.and_eq_true]at hav
    exact(F.dp ha f (List.all_eq_true.1 hav.2.2.1 f hfe)).2 (st.g f (cU.2 (.inr ⟨e,he,hb,hfe⟩)))
 ·rcases parts id ow r hl with hp|⟨hp,hno⟩
  ·exact hd2.rows id ow r hp
  ·obtain⟨lo,hi,ha,hk,hv⟩:=old id _ hp
   refine am.gy (am.dp ha hk hv (st.hd.rows id ow r hp)) fun b hb=>?_
   have hb':=(ownsS id ow r hp b).1 hb
   cases ow
   ·exact stay b (.inr (.inl ⟨id,r,hp,hb'⟩))
   ·exact stay b (.inr (.inr ⟨id,r,hp,hno rfl,hb'⟩))
 ·rcases parts id true r hl with hp|⟨hp,hno⟩
  ·exact fun hk=>hd2.own id r hp b hb (.inl hk)
  ·exact st.hd.own id r hp b ((ownsS id true r hp b).1 hb)
 ·rcases parts id false r hl with hp|⟨hp,_⟩
  ·rcases hd2.ro id r hp b hb with(h1|⟨id2,r2,hl2,hb2⟩)|h1
   ·exact .inl h1
   ·exact st.hd.ro id2 r2 hl2 b hb2
   ·exact .inr fun hk=>h1 (.inl hk)
  ·exact st.hd.ro id r hp b ((ownsS id false r hp b).1 hb)
 ·rcases parts i false r hi with p1|⟨p1,_⟩
  ·rcases parts j true s hj with p2|⟨p2,q2⟩
   ·exact hd2.dis i j r s p1 p2 b hb1 hb2
   ·have hb2':=(ownsS j true s p2 b).1 hb2
    rcases hd2.ro i r p1 b hb1 with(h1|⟨id2,r2,hl2,hbb⟩)|h1
    ·exact st.hd.own j s p2 b hb2' (st.hd.fr.shk b h1)
    ·exact st.hd.dis id2 j r2 s hl2 p2 b hbb hb2'
    ·exact h1 (.inr (.inr ⟨j,s,p2,q2 rfl,hb2'⟩))
  ·rcases parts j true s hj with p2|⟨p2,_⟩
   ·exact hd2.own j s p2 b hb2 (.inr (.inl ⟨i,r,p1,(ownsS i false r p1 b).1 hb1⟩))
   ·exact st.hd.dis i j r s p1 p2 b ((ownsS i false r p1 b).1 hb1) ((ownsS j true s p2 b).1 hb2)
 ·rcases parts i true r hi with p1|⟨p1,q1⟩
  ·rcases parts j true s hj with p2|⟨p2,q2⟩
   ·exact hd2.sep i j r s hij p1 p2 b hb1 hb2
   ·exact hd2.own i r p1 b hb1 (.inr (.inr ⟨j,s,p2,q2 rfl,(ownsS j true s p2 b).1 hb2⟩))
  ·rcases parts j true s hj with p2|⟨p2,q2⟩
   ·exact hd2.own j s p2 b hb2 (.inr (.inr ⟨i,r,p1,q1 rfl,(ownsS i true r p1 b).1 hb1⟩))
   ·exact st.hd.sep i j r s hij p1 p2 b ((ownsS i true r p1 b).1 hb1) ((ownsS j true s p2 b).1 hb2)
 ·exact⟨hd2.fr.os.trans st.hd.fr.os,hd2.fr.tape.trans st.hd.fr.tape,hd2.fr.output.trans st.hd.fr.output,Nat.le_trans st.hd.fr.size hd2.fr.size,
   fun b hb=>⟨(st.hd.fr.keep b hb).1,(stay b (.inl hb)).trans (st.hd.fr.keep b hb).2⟩,st.hd.fr.shk⟩
 ·have oldR:∀t c s,ai (.r t) (fc S efs R)=some (.reg c s)→a.tmps[t]? =some (if c.den σ then s.den σ else undef):=by
   intro t c s hl
   have hreg:=st.rd.regs t c s hl
   have:∃lo hi,b7 lo hi ρ σ∧c.avo lo hi=true∧s.avo lo hi=true:=by
    rcases Cq hl with hl|⟨e,he,hSe,_,hv⟩
    ·have:=(af.al F1.rav hl).2
     simp only[aY.avo,Bool.and_eq_true]at this
     exact⟨n,x.n',hagr.mono hxo.1 (Nat.le_refl _),BE.ad (Nat.le_refl _) (by omega) _ this.1,SV.ad (Nat.le_refl _) (by omega) _ this.2⟩
    ·obtain⟨lo,hi,ha,hav⟩:=tj F1 hx he h hSe hagr
     simp only[wV,Bool.and_eq_true]at hav
     obtain⟨rfl,rfl⟩:=aY.reg.inj hv
     exact⟨lo,hi,ha,hav.1,hav.2.1⟩
   obtain⟨lo,hi,ha,hc,hs⟩:=this
   rw[hreg,BE.ag ha c hc,SV.ag ha s hs]
  have hother:∀t,x.dst≠some t→ai (.r t) (fc (la S x.i) efs R)=ai (.r t) (fc S efs R):=by
   intro t ht
   refine lO (fun e he hd=>?_) rfl
   by_cases hex:e.i=x.i
   ·have:e=x:=by
     have h1:=(di F1 he).1
     rw[hex,hxe.1]at h1
     exact(Option.some.inj h1).symm
    subst this;exact absurd hd ht
   ·exact cR hex
  cases hdst:x.dst with
  |none=>
   refine⟨st.rd.defers,st.rd.size,fun t c s hl=>?_⟩
   rw[hother t (by rw[hdst];exact fun e=>by cases e)]at hl
   exact oldR t c s hl
  |some d=>
   have hlt:d<nt:=by
    have:=hok.dok
    rw[hdst]at this
    exact Nat.le_of_ble_eq_true this
   refine⟨st.rd.defers,by simp only[Act.put,Array.size_setIfInBounds];exact st.rd.size,fun t c s hl=>?_⟩
   simp only[Act.put,Array.getElem?_setIfInBounds]
   by_cases hdt:d=t
   ·subst hdt
    have hsplit:fc (la S x.i) efs R=fc (la S x.i) (efs.drop (x.i+1)) ((.r d,.reg x.c x.s)::fc (la S x.i) (efs.take x.i) R):=by
     conv=>lhs;rw[lT F1 hx]
     rw[nI]
     simp only[fc,fl,cond_true,gO,hdst]
    rw[hsplit,lR,bT]at hl
    ·obtain⟨rfl,rfl⟩:=aY.reg.inj (Option.some.inj hl)
     rw[if_pos rfl,if_pos (by rw[st.rd.size];exact hlt)]
    ·intro e he hSe hde
     obtain⟨he1,he2⟩:=rW F1 he
     rw[cR (by omega)]at hSe
     obtain⟨l1,l2,l3⟩:=later e he1 hSe he2
     obtain⟨p1,_,_⟩:=oi F1 hx he1 (fun e'=>l3 e'.symm) l2 l1
     unfold Xd at p1
     rw[hdst]at p1
     simp only[P0.2 hde,Bool.not_true]at p1
     cases p1
   ·rw[if_neg hdt]
    rw[hother t (by rw[hdst];exact fun e=>hdt (Option.some.inj e))]at hl
    exact oldR t c s hl
end
section
variable [cg] [Fm]
variable [gG]
def wY(listed:Array Bool)(k:Nat):Bool:=listed.getD k false
theorem uY{all:Array Oper}{listed:Array Bool}{i:Nat}(h:i∈Region.ready .any all listed):
 i<all.size∧wY listed i=false∧∀o,all.toList[i]? =some o→∀e,e∈o.after.toList→Region.binds .any e=true→wY listed e.on=true:=by
 unfold Region.ready at h
 rw[List.mem_filter,List.mem_range]at h
 obtain⟨h1,h2⟩:=h
 simp only[Bool.and_eq_true,Bool.not_eq_true']at h2
 refine⟨h1,?_,fun o ho e he hb=>?_⟩
 ·unfold wY
  have:=h2.1
  rw[Array.getD_eq_getD_getElem?]at this⊢
  cases hl:listed[i]? with
  |none=>rfl
  |some b=>rw[hl]at this;exact this
 ·have ho':all[i]? =some o:=by rw[←Array.getElem?_toList];exact ho
  rw[ho']at h2
  have h3:=h2.2
  simp only[Option.map_some,Option.getD_some]at h3
  have:=Array.all_eq_true_iff_forall_mem.1 h3 e (Array.mem_toList_iff.1 he)
  simp only[hb,Bool.not_true,Bool.false_or]at this
  exact this
theorem wZ{listed:Array Bool}{i:Nat}(hi:i<listed.size):wY (listed.setIfInBounds i true)=la (wY listed) i:=by
 funext k
 unfold wY
 rw[Array.getD_eq_getD_getElem?,Array.getElem?_setIfInBounds]
 by_cases h:i=k
 ·subst h;rw[if_pos rfl,if_pos hi,fl];rfl
 ·rw[if_neg h,cR (fun e=>h e.symm)]
  rw[Array.getD_eq_getD_getElem?]
def Xi(listed:Array Bool)(N:Nat):Nat:=((List.range N).filter fun k=>!(wY listed k)).length
theorem nh{p q:Nat→Bool}:∀{l:List Nat} {i:Nat},(∀k,q k=true→p k=true)→i∈l→p i=true→q i=false→(l.filter q).length<(l.filter p).length
 |[],i,_,h,_,_=>by cases h
 |x::l,i,hpq,h,hp,hq=>by
  have hle:∀l:List Nat,(l.filter q).length≤(l.filter p).length:=by
   intro l
   induction l with
   |nil=>exact Nat.le_refl _
   |cons y l ih=>
    by_cases hy:q y=true
    ·rw[List.filter_cons_of_pos hy,List.filter_cons_of_pos (hpq y hy)];simp;exact ih
    ·rw[List.filter_cons_of_neg hy]
     by_cases hy2:p y=true
     ·rw[List.filter_cons_of_pos hy2];simp;omega
     ·rw[List.filter_cons_of_neg hy2];exact ih
  cases h with
  |head=>
   rw[List.filter_cons_of_pos hp,List.filter_cons_of_neg (by rw[hq];decide)]
   have:=hle l
   simp;omega
  |tail _ h=>
   have ih:=nh hpq h hp hq
   by_cases hy:q x=true
   ·rw[List.filter_cons_of_pos hy,List.filter_cons_of_pos (hpq x hy)];simp;exact ih
   ·rw[List.filter_cons_of_neg hy]
    by_cases hy2:p x=true
    ·rw[List.filter_cons_of_pos hy2];simp;omega
    ·rw[List.filter_cons_of_neg hy2];exact ih
theorem Cs{listed:Array Bool}{N i:Nat}(hi:i<N)(hs:i<listed.size)(hn:wY listed i=false):Xi (listed.setIfInBounds i true) N<Xi listed N:=by
 unfold Xi
 rw[wZ hs]
 refine nh (i:=i) (fun k hk=>?_) (List.mem_range.2 hi) (by rw[hn];rfl) (by rw[fl];rfl)
 by_cases h:k=i
 ·subst h;rw[fl]at hk;cases hk
 ·rw[cR h]at hk;exact hk
theorem Ct{P:Program}{nt:Nat}{all:Array Oper}{R H:af}{g:List F}{n n':Nat}{efs:List Ef}(F1:n7 P nt all R H g n n' efs){C:bp}{ρ0:ap}(hvcs:∀x,x∈efs→ab x.vcs)(Q:Exit→Act→World→Prop)
 (hQ:∀σ a w,Cr C nt ρ0 n n' efs R H g (fun _=>true) σ a w→Q .normal a w):
 ∀(fuel:Nat) (listed:Array Bool) (a:Act) (w:World),listed.size=all.size→Xi listed all.size≤fuel→OZ all.toList (wY listed)→
  (∃σ,Cr C nt ρ0 n n' efs R H g (wY listed) σ a w)→wpAnyIn (FC Fm.ro) 9 P .any all Q fuel listed a w:=by
 have hlen:all.toList.length=all.size:=by simp
 have fin:∀(listed:Array Bool) (a:Act) (w:World),listed.size=all.size→Region.ready .any all listed=[]→(∃σ,Cr C nt ρ0 n n' efs R H g (wY listed) σ a w)→Q .normal a w:=by
  intro listed a w hs hr hst
  have hall:∀k,k<all.size→wY listed k=true:=by
   intro k
   induction k using Nat.strongRecOn with
   |_ k ih=>
    intro hk
    cases hin:wY listed k
    ·exfalso
     have hmem:k∈Region.ready .any all listed:=by
      unfold Region.ready
      rw[List.mem_filter,List.mem_range]
      refine⟨hk,?_⟩
      simp only[Bool.and_eq_true,Bool.not_eq_true']
      have ho:all[k]? =some all[k]:=Array.getElem?_eq_getElem hk
      refine⟨?_,?_⟩
      ·have hk2:k<listed.size:=by omega
       have hg:listed[k]? =some listed[k]:=Array.getElem?_eq_getElem hk2
       unfold wY at hin
       rw[Array.getD_eq_getD_getElem?,hg]at hin
       rw[Array.getD_eq_getD_getElem?,hg]
       exact hin
      ·rw[ho]
       simp only[Option.map_some,Option.getD_some]
       rw[Array.all_eq_true_iff_forall_mem]
       intro e he
       cases hb:Region.binds .any e
       ·rfl
       ·simp only[Bool.not_true,Bool.false_or]
        have hlt:=oh F1.edges k all[k] (by rw[Array.getElem?_toList];exact ho) e (Array.mem_toList_iff.2 he) hb
        exact ih e.on (by omega) (by omega)
     rw[hr]at hmem;cases hmem
    ·rfl
  obtain⟨σ,st⟩:=hst
  have hsame:∀e,e∈efs→(fun _=>true) e.i=wY listed e.i:=fun e he=>by
   have:=(di F1 he).2
   rw[hlen]at this
   exact(hall e.i this).symm
  refine hQ σ a w ⟨st.agr,fun f hf=>st.g f (cU.2 ?_),st.hd.sub fun id o r hl=>?_,⟨st.rd.defers,st.rd.size,fun t c s hl=>st.rd.regs t c s ?_⟩⟩
  ·rcases cU.1 hf with hf1|⟨e,he,_,hfe⟩
   ·exact .inl hf1
   ·exact .inr ⟨e,he,by rw[←hsame e he],hfe⟩
  ·rw[←hl];exact lN (fun e he _=>(hsame e he).symm) rfl
  ·rw[←hl];exact lO (fun e he _=>(hsame e he).symm) rfl
 intro fuel
 induction fuel with
 |zero=>
  intro listed a w hs hm hd hst
  have hr:Region.ready .any all listed=[]:=by
   cases hrr:Region.ready .any all listed with
   |nil=>rfl
   |cons i l=>
    exfalso
    obtain⟨h1,h2,_⟩:=uY (all:=all) (listed:=listed) (i:=i) (by rw[hrr];exact .head _)
    have:=Cs h1 (by omega) h2
    omega
  exact⟨hr,fin listed a w hs hr hst⟩
 |succ fuel ih=>
  intro listed a w hs hm hd hst
  refine⟨fun hr=>fin listed a w hs hr hst,fun i hi=>?_⟩
  obtain⟨h1,h2,h3⟩:=uY hi
  have hil:i<efs.length:=by rw[F1.told.len,hlen];exact h1
  have hxi:=(F1.told.each i efs[i] (List.getElem?_eq_getElem hil)).1
  have hset:P1 all (wY listed) (efs[i]).i:=⟨hd,by rw[hxi];exact h2,by rw[hxi];exact h3⟩
  obtain⟨σ,st⟩:=hst
  have hstep:=Hm F1 hvcs (List.getElem_mem hil) hset st Q
  rw[hxi]at hstep
  refine wpOpIn_mono (fun a' w' hx=>?_) hstep
  refine ih (listed.setIfInBounds i true) a' w' (by simp[hs]) (by have:=Cs (N:=all.size) h1 (by omega) h2;omega) ?_ (by rw[wZ (by omega)];exact hx)
  rw[wZ (by omega)]
  intro k o ho hk e he hb
  by_cases hki:k=i
  ·subst hki
   have:=h3 o ho e he hb
   by_cases hei:e.on=k
   ·rw[hei,fl]
   ·rw[cR hei];exact this
  ·rw[cR hki]at hk
   have:=hd k o ho hk e he hb
   by_cases hei:e.on=i
   ·rw[hei,fl]
   ·rw[cR hei];exact this
end
section
variable [cg] [Fm]
theorem N1[gG]{P:Program}(hm:P.follows .mixedOrders=true)(hN:iS P){call:aU}(hcall:bI P call):rJ P (a6l P call):=by
 intro id all base C nt amb n b v t n' h hamb hws hn
 unfold a6l at h
 simp only at h
 split at h
 ·rename_i efs n1 hr
  cases hc:(lQ 0 all.toList&&wW (dV all.toList [])&&(efs.all fun x=>(x.heapy||ta x.n x.n' x.pre)&&efs.all fun y=>tb (dV all.toList []) x y))
  ·rw[hc]at h;cases h
  ·rw[hc]at h
   simp only[cond_true,Option.some.injEq,Prod.mk.injEq]at h
   obtain⟨rfl,rfl,rfl⟩:=h
   simp only[Bool.and_eq_true]at hc
   obtain⟨⟨c1,c2⟩,c3⟩:=hc
   have hgav:F.avos n ay (b.g++(b.pc++amb))=true:=F.bt hws.1 (F.bt hws.2.1 hamb)
   have told:=tf hcall hN hws.2.2.1 hws.2.2.2.1 hgav all.toList 0 n [] efs n1 hr (by simp) rfl (Nat.zero_le _) (Nat.le_refl _) hn (fun k x hx=>by simp at hx) (fun k j x y _ hx=>by simp at hx)
   have hx:∀x,x∈efs→(x.heapy=true∨ta x.n x.n' x.pre=true)∧∀y,y∈efs→tb (dV all.toList []) x y=true:=by
    intro x hx
    have:=List.all_eq_true.1 c3 x hx
    simp only[Bool.and_eq_true,Bool.or_eq_true,List.all_eq_true]at this
    exact this
   have F1:n7 P nt all b.R b.H (b.g++(b.pc++amb)) n n1 efs:=
    ⟨told,c1,c2,fun x h=>(hx x h).1,fun x y h1 h2=>(hx x h1).2 y h2,hws.2.2.1,hws.2.2.2.1,hgav⟩
   have hwsE:∀e,e∈efs→e.ws n1:=by
    intro e he
    have h1:=ti F1 he
    obtain⟨_,_,_,_,o,_,_,hok⟩:=told.each e.i e (di F1 he).1
    exact hok.ws h1.2.2.1
   refine⟨told.le,told.big,⟨te (fun e he=>(hwsE e he).2.2.1) (F.aq told.le (Nat.le_refl _) hws.1),F.aq told.le (Nat.le_refl _) hws.2.1,
    tc (fun e he=>⟨(hwsE e he).1,(hwsE e he).2.1⟩) (af.ad told.le (Nat.le_refl _) _ hws.2.2.1),td (fun e he=>(hwsE e he).2.2.2) (af.ad told.le (Nat.le_refl _) _ hws.2.2.2.1),?_⟩,fun hv ρ a w hA hb Q hQ=>?_⟩
   ·show cQ _ efs b.H=cQ _ efs b.pre++base
    rw[hws.2.2.2.2,sZ]
   ·refine wpIn_region_any hm ?_
    have hvcs:∀x,x∈efs→ab x.vcs:=fun x hx y hy=>hv y (List.mem_flatMap.2 ⟨x,hx,hy⟩)
    refine Ct F1 (C:=C) (ρ0:=ρ) hvcs Q (fun σ a' w' st=>?_) _ _ _ _ (by simp) ?_ ?_ ⟨ρ,?_⟩
    ·refine hQ .normal σ a' w' st.agr ⟨rfl,?_,?_,st.hd,st.rd⟩
     ·intro f hf
      rcases cU.1 hf with hf1|⟨e,he,hp,hfe⟩
      ·exact st.g f (cU.2 (.inl (List.mem_append.2 (.inl hf1))))
      ·exact st.g f (cU.2 (.inr ⟨e,he,hp,hfe⟩))
     ·exact fun f hf=>st.g f (cU.2 (.inl (List.mem_append.2 (.inr (List.mem_append.2 (.inl hf))))))
    ·unfold Xi
     exact Nat.le_trans (List.length_filter_le _ _) (by simp)
    ·intro i o ho hi
     exfalso
     unfold wY at hi
     rw[Array.getD_eq_getD_getElem?]at hi
     by_cases hlt:i<all.size
     ·rw[Array.getElem?_replicate,if_pos hlt]at hi;cases hi
     ·rw[Array.getElem?_replicate,if_neg hlt]at hi;cases hi
    ·have hno:∀k,wY (Array.replicate all.size false) k=false:=by
      intro k
      unfold wY
      rw[Array.getD_eq_getD_getElem?,Array.getElem?_replicate]
      split<;>rfl
     refine⟨b7.refl _ _ _,fun f hf=>?_,?_,?_⟩
     ·rcases cU.1 hf with hf1|⟨e,he,hp,_⟩
      ·rcases List.mem_append.1 hf1 with h1|h1
       ·exact hb.g f h1
       ·rcases List.mem_append.1 h1 with h1|h1
        ·exact hb.pc f h1
        ·exact hA f h1
      ·rw[hno]at hp;cases hp
     ·have:HD C ρ b.H {w with drawn:=w.drawn+1}:=
       ⟨fun id o r hl=>am.gy (hb.hd.rows id o r hl) fun _ _=>rfl,hb.hd.own,hb.hd.ro,hb.hd.dis,hb.hd.sep,⟨hb.hd.fr.os,hb.hd.fr.tape,hb.hd.fr.output,hb.hd.fr.size,hb.hd.fr.keep,hb.hd.fr.shk⟩⟩
      exact this.sub fun id o r hl=>by
       rw[lS (fun e _ hp=>by rw[hno]at hp;cases hp)]at hl;exact hl
     ·exact⟨hb.rd.defers,hb.rd.size,fun t c s hl=>by
       rw[lR (fun e _ hp=>by rw[hno]at hp;cases hp)]at hl
       exact hb.rd.regs t c s hl⟩
 ·cases h
theorem xa{P:Program}(hm:P.follows .mixedOrders=true)(hN:iS P){call:aU}(hcall:bI P call):rJ P (Xf P call):=by
 intro id all base C nt amb n b v t n' h hamb hws hn
 unfold Xf at h
 split at h
 ·rename_i o ho
  obtain rfl:=Option.some.inj h
  exact @N1 _ _ N0 P hm hN call hcall id all base C nt amb n b v t n' ho hamb hws hn
 ·simp only at h
  split at h
  ·rename_i efs n1 hr
   exact @N1 _ _ ⟨aa4 (dV all.toList []) efs⟩ P hm hN call hcall id all base C nt amb n b v t n' h hamb hws hn
  ·cases h
theorem Hn{P:Program}(hm:P.follows .mixedOrders=true)(hN:iS P){call:aU}(hcall:bI P call):rJ P (drF P call):=by
 intro id all base C nt amb n b v t n' h hamb hws hn
 unfold drF at h
 split at h
 ·rename_i o ho
  obtain rfl:=Option.some.inj h
  exact xa hm hN hcall id all base C nt amb n b v t n' ho hamb hws hn
 ·split at h
  ·rename_i c hst
   cases hca:c.avo n ay
   ·rw[hca]at h;cases h
   rw[hca]at h
   simp only[cond_true]at h
   split at h
   ·rename_i v1 t1 n1 h1
    split at h
    ·rename_i v2 t2 n2 h2
     simp only[Option.some.injEq,Prod.mk.injEq]at h
     obtain⟨rfl,rfl,rfl⟩:=h
     have pcs:∀{m:Nat} {d:BE},d.avo m ay=true→F.avos m ay b.pc=true→F.avos m ay (.be d::b.pc)=true:=by
      intro m d hd hp
      simp only[F.avos,List.all_cons,F.avo,hd,Bool.true_and]at hp⊢;exact hp
     obtain⟨g1,g2,g3,g4⟩:=xa hm hN hcall id all base C nt amb n _ v1 t1 n1 h1 hamb ⟨hws.1,pcs hca hws.2.1,hws.2.2.1,hws.2.2.2.1,hws.2.2.2.2⟩ hn
     have hw1:=Br.bh g1 hws
     obtain⟨k1,k2,k3,k4⟩:=xa hm hN hcall id all base C nt amb n1 _ v2 t2 n2 h2 (F.aq g1 (Nat.le_refl _) hamb) ⟨hw1.1,pcs (gd (BE.ad g1 (Nat.le_refl _) c hca)) hw1.2.1,hw1.2.2.1,hw1.2.2.2.1,hw1.2.2.2.2⟩ g2
     refine⟨by omega,k2,⟨BE.ad (show n≤n2 by omega) (Nat.le_refl _) c hca,T.bo k1 (fun z hz=>Br.bh k1 hz) g3,k3⟩,fun hv ρ a w hA hb Q hQ=>?_⟩
     have hsame:∀ρ',b7 n n2 ρ ρ'→c.den ρ'=c.den ρ:=fun ρ' hagr=>BE.ag hagr c (BE.ad (Nat.le_refl _) k2 c hca)
     cases hcd:c.den ρ
     ·refine k4 hv.app.2 ρ a w hA ⟨hb.g,aa.2 ⟨by simp only[F.holds,cJ,hcd];rfl,hb.pc⟩,hb.hd,hb.rd⟩ Q fun e ρ'' a'' w'' hagr' hp'=>hQ e ρ'' a'' w'' (hagr'.mono (by omega) (Nat.le_refl _)) ?_
      simp only[T.post];rw[if_neg (by rw[hsame ρ'' (hagr'.mono (by omega) (Nat.le_refl _)),hcd];decide)];exact hp'
     ·refine g4 hv.app.1 ρ a w hA ⟨hb.g,aa.2 ⟨hcd,hb.pc⟩,hb.hd,hb.rd⟩ Q fun e ρ'' a'' w'' hagr' hp'=>hQ e ρ'' a'' w'' (hagr'.mono (Nat.le_refl _) k1) ?_
      simp only[T.post];rw[if_pos (by rw[hsame ρ'' (hagr'.mono (Nat.le_refl _) k1),hcd])];exact hp'
    ·cases h
   ·cases h
  ·cases h
end
section
variable [cg] [Fm]
structure c8 where
 m:Nat
 n:Nat
 d:Nat
def c8.v(r:c8)(v u:Nat):Bool:=
 bif Nat.ble r.m v&&Nat.blt v (r.m+r.d)then Nat.beq u (r.n+(v-r.m))else(Nat.beq v u&&(Nat.blt v r.n||Nat.ble (r.n+r.d) v))
def c8.back(r:c8)(u:Nat):Nat:=if r.n≤u∧u<r.n+r.d then r.m+(u-r.n)else u
theorem c8.fq{r:c8}{v u:Nat}(h:r.v v u=true):r.back u=v:=by
 unfold c8.v at h
 unfold c8.back
 cases hc:(Nat.ble r.m v&&Nat.blt v (r.m+r.d))
 ·rw[hc]at h
  simp only[cond_false,Bool.and_eq_true,Bool.or_eq_true]at h
  have h1:=Nat.eq_of_beq_eq_true h.1
  subst h1
  rw[if_neg]
  rintro⟨g1,g2⟩
  rcases h.2 with g|g
  ·have:v+1≤r.n:=Nat.le_of_ble_eq_true g;omega
  ·have:=Nat.le_of_ble_eq_true g;omega
 ·rw[hc]at h
  simp only[cond_true]at h
  simp only[Bool.and_eq_true]at hc
  have h1:=Nat.eq_of_beq_eq_true h
  have h2:=Nat.le_of_ble_eq_true hc.1
  have h3:v+1≤r.m+r.d:=Nat.le_of_ble_eq_true hc.2
  subst h1
  rw[if_pos ⟨by omega,by omega⟩];omega
def c8.env(r:c8)(ρ:ap):ap:=
 {i:=fun u=>ρ.i (r.back u),b:=fun u=>ρ.b (r.back u),k:=fun u=>ρ.k (r.back u),f:=fun u=>ρ.f (r.back u),l:=fun u=>ρ.l (r.back u),x:=fun u=>ρ.x (r.back u),y:=fun u=>ρ.y (r.back u)}
theorem c8.N2(r:c8)(ρ:ap):b7 r.n (r.n+r.d) ρ (r.env ρ):=by
 have:∀v,v<r.n∨r.n+r.d≤v→r.back v=v:=by
  intro v hv;unfold c8.back;rw[if_neg];omega
 constructor<;>intro v hv<;>simp only[c8.env,this v hv]
mutual
def IE.eqr(r:c8):IE→IE→Bool
 |.lit m,.lit n=>iEq m n
 |.var v,.var u=>r.v v u
 |.add a b,.add c d|.sub a b,.sub c d|.mul a b,.mul c d|.quo a b,.quo c d|.rem a b,.rem c d|.mx a b,.mx c d|.mn a b,.mn c d=>a.eqr r c&&b.eqr r d
 |.wrap k a,.wrap j c=>gw k j&&a.eqr r c
 |.bits o k a b,.bits p j c d=>Wr o p&&(gw k j&&(a.eqr r c&&b.eqr r d))
 |.shl k a b,.shl j c d|.shr k a b,.shr j c d=>gw k j&&(a.eqr r c&&b.eqr r d)
 |.ite x a b,.ite y c d=>x.eqr r y&&(a.eqr r c&&b.eqr r d)
 |.nat a,.nat c=>a.eqr r c
 |.get l i c,.get m j d=>Nat.beq c d&&(i.eqr r j&&l.eqr r m)
 |_,_=>false
def BE.eqr(r:c8):BE→BE→Bool
 |.lit m,.lit n=>m==n
 |.var v,.var u=>r.v v u
 |.not a,.not b=>a.eqr r b
 |.cmp o a b,.cmp p c d=>Wr o p&&(a.eqr r c&&b.eqr r d)
 |.ite x a b,.ite y c d=>x.eqr r y&&(a.eqr r c&&b.eqr r d)
 |.eqb a b,.eqb c d=>a.eqr r c&&b.eqr r d
 |_,_=>false
def LE.eqr(r:c8):LE→LE→Bool
 |.var v,.var u=>r.v v u
 |.upd l i c e,.upd m j d f=>Nat.beq c d&&(i.eqr r j&&(e.eqr r f&&l.eqr r m))
 |.ite x a b,.ite y c d=>x.eqr r y&&(a.eqr r c&&b.eqr r d)
 |_,_=>false
end
mutual
theorem IE.aD{r:c8}{ρ:ap}:∀a b:IE,a.eqr r b=true→b.den (r.env ρ)=a.den ρ:=by
 intro a b h
 cases a<;>cases b<;>first
  |(cases h;done)
  |(simp only[IE.eqr]at h;rw[sw h];rfl)
  |(simp only[IE.eqr]at h;simp only[IE.den,c8.env,c8.fq h];done)
  |(simp only[IE.eqr,Bool.and_eq_true]at h;simp only[IE.den,IE.aD _ _ h.1,IE.aD _ _ h.2];done)
  |(simp only[IE.eqr,Bool.and_eq_true]at h;have:=bY h.1;subst this;simp only[IE.den,IE.aD _ _ h.2];done)
  |(simp only[IE.eqr,Bool.and_eq_true]at h;have:=rS h.1;subst this;have:=bY h.2.1;subst this;simp only[IE.den,IE.aD _ _ h.2.2.1,IE.aD _ _ h.2.2.2];done)
  |(simp only[IE.eqr,Bool.and_eq_true]at h;have:=bY h.1;subst this;simp only[IE.den,IE.aD _ _ h.2.1,IE.aD _ _ h.2.2];done)
  |(simp only[IE.eqr,Bool.and_eq_true]at h;simp only[IE.den,BE.aD _ _ h.1,IE.aD _ _ h.2.1,IE.aD _ _ h.2.2];done)
  |(simp only[IE.eqr]at h;simp only[IE.den,IE.aD _ _ h];done)
  |(simp only[IE.eqr,Bool.and_eq_true]at h;have:=Nat.eq_of_beq_eq_true h.1;subst this;simp only[IE.den,IE.aD _ _ h.2.1,LE.aD _ _ h.2.2];done)
theorem BE.aD{r:c8}{ρ:ap}:∀a b:BE,a.eqr r b=true→b.den (r.env ρ)=a.den ρ:=by
 intro a b h
 cases a<;>cases b<;>first
  |(cases h;done)
  |(simp only[BE.eqr,beq_iff_eq]at h;rw[h];rfl)
  |(simp only[BE.eqr]at h;simp only[BE.den,c8.env,c8.fq h];done)
  |(simp only[BE.eqr]at h;simp only[BE.den,BE.aD _ _ h];done)
  |(simp only[BE.eqr,Bool.and_eq_true]at h;have:=rS h.1;subst this;simp only[BE.den,IE.aD _ _ h.2.1,IE.aD _ _ h.2.2];done)
  |(simp only[BE.eqr,Bool.and_eq_true]at h;simp only[BE.den,BE.aD _ _ h.1,BE.aD _ _ h.2.1,BE.aD _ _ h.2.2];done)
  |(simp only[BE.eqr,Bool.and_eq_true]at h;simp only[BE.den,BE.aD _ _ h.1,BE.aD _ _ h.2];done)
theorem LE.aD{r:c8}{ρ:ap}:∀a b:LE,a.eqr r b=true→b.den (r.env ρ)=a.den ρ:=by
 intro a b h
 cases a<;>cases b<;>first
  |(cases h;done)
  |(simp only[LE.eqr]at h;simp only[LE.den,c8.env,c8.fq h];done)
  |(simp only[LE.eqr,Bool.and_eq_true]at h;have:=Nat.eq_of_beq_eq_true h.1;subst this;simp only[LE.den,IE.aD _ _ h.2.1,IE.aD _ _ h.2.2.1,LE.aD _ _ h.2.2.2];done)
  |(simp only[LE.eqr,Bool.and_eq_true]at h;simp only[LE.den,BE.aD _ _ h.1,LE.aD _ _ h.2.1,LE.aD _ _ h.2.2];done)
end
def PT.eqr(r:c8):PT→PT→Bool
 |.at a b,.at c d=>r.v a c&&Nat.beq b d
 |.ax a b i e,.ax c d j f=>r.v a c&&(Nat.beq b d&&(i.eqr r j&&Nat.beq e f))
 |.fm a i b,.fm c j d=>r.v a c&&(i.eqr r j&&Nat.beq b d)
 |.el a i b c,.el d j e f=>r.v a d&&(i.eqr r j&&(Nat.beq b e&&Nat.beq c f))
 |.fx a i b x c,.fx d j e y f=>r.v a d&&(i.eqr r j&&(Nat.beq b e&&(x.eqr r y&&Nat.beq c f)))
 |_,_=>false
theorem PT.Cu{r:c8}{ρ:ap}{a b:PT}(h:a.eqr r b=true):b.addr (r.env ρ)=a.addr ρ:=by
 cases a<;>cases b<;>first
  |(cases h;done)
  |(simp only[PT.eqr,Bool.and_eq_true]at h;have:=Nat.eq_of_beq_eq_true h.2;subst this;simp only[PT.addr,c8.env,c8.fq h.1];done)
  |(simp only[PT.eqr,Bool.and_eq_true]at h;have:=Nat.eq_of_beq_eq_true h.2.2.1;subst this;have:=Nat.eq_of_beq_eq_true h.2.2.2.2;subst this;simp only[PT.addr,IE.aD _ _ h.2.1,IE.aD _ _ h.2.2.2.1];simp only[c8.env,c8.fq h.1];done)
  |(simp only[PT.eqr,Bool.and_eq_true]at h;have:=Nat.eq_of_beq_eq_true h.2.1;subst this;have:=Nat.eq_of_beq_eq_true h.2.2.2;subst this;simp only[PT.addr,IE.aD _ _ h.2.2.1];simp only[c8.env,c8.fq h.1];done)
  |(simp only[PT.eqr,Bool.and_eq_true]at h;have:=Nat.eq_of_beq_eq_true h.2.2;subst this;simp only[PT.addr,IE.aD _ _ h.2.1];simp only[c8.env,c8.fq h.1];done)
  |(simp only[PT.eqr,Bool.and_eq_true]at h;have:=Nat.eq_of_beq_eq_true h.2.2.1;subst this;have:=Nat.eq_of_beq_eq_true h.2.2.2;subst this;simp only[PT.addr,IE.aD _ _ h.2.1];simp only[c8.env,c8.fq h.1];done)
def ae4(a b:Fn):Bool:=
 match a,b with
 |.func f,.func g=>Nat.beq f g
 |_,_=>false
theorem a6n{a b:Fn}(h:ae4 a b=true):a=b:=by
 cases a<;>cases b<;>first|(cases h;done)|(exact congrArg _ (Nat.eq_of_beq_eq_true h))
mutual
def SV.eqr(r:c8):SV→SV→Bool
 |.b e,.b f=>e.eqr r f
 |.int k e,.int j f=>gw k j&&e.eqr r f
 |.ptr p,.ptr q=>p.eqr r q
 |.nilp,.nilp=>true
 |.sl p n c,.sl q m d=>p.eqr r q&&(n.eqr r m&&c.eqr r d)
 |.nils,.nils=>true
 |.nilf,.nilf=>true
 |.fn f a c,.fn g e d=>ae4 f g&&(SV.eqrs r a e&&SV.eqrs r c d)
 |.agg a,.agg e=>SV.eqrs r a e
 |.tup a,.tup e=>SV.eqrs r a e
 |.opq v,.opq u=>r.v v u
 |.map v,.map u=>r.v v u
 |.lst v,.lst u=>r.v v u
 |.yv v i,.yv u j=>r.v v u&&i.eqr r j
 |_,_=>false
def SV.eqrs(r:c8):List SV→List SV→Bool
 |[],[]=>true
 |s::l,t::m=>s.eqr r t&&SV.eqrs r l m
 |_,_=>false
end
mutual
theorem SV.aD{r:c8}{ρ:ap}:∀a b:SV,a.eqr r b=true→b.den (r.env ρ)=a.den ρ:=by
 intro a b h
 cases a<;>cases b<;>first
  |(cases h;done)
  |rfl
  |(simp only[SV.eqr]at h;simp only[SV.den,BE.aD _ _ h];done)
  |(simp only[SV.eqr,Bool.and_eq_true]at h;have:=bY h.1;subst this;simp only[SV.den,IE.aD _ _ h.2];done)
  |(simp only[SV.eqr]at h;simp only[SV.den,PT.Cu h];done)
  |(simp only[SV.eqr,Bool.and_eq_true]at h;simp only[SV.den,PT.Cu h.1,IE.aD _ _ h.2.1,IE.aD _ _ h.2.2];done)
  |(simp only[SV.eqr,Bool.and_eq_true]at h;have:=a6n h.1;subst this;simp only[SV.den,SV.fB _ _ h.2.1,SV.fB _ _ h.2.2];done)
  |(simp only[SV.eqr]at h;simp only[SV.den,SV.fB _ _ h];done)
  |(simp only[SV.eqr]at h;simp only[SV.den,c8.env,c8.fq h];done)
  |(simp only[SV.eqr,Bool.and_eq_true]at h;simp only[SV.den,IE.aD _ _ h.2];simp only[c8.env,c8.fq h.1];done)
theorem SV.fB{r:c8}{ρ:ap}:∀a b:List SV,SV.eqrs r a b=true→SV.dens (r.env ρ) b=SV.dens ρ a:=by
 intro a b h
 cases a<;>cases b<;>first
  |(cases h;done)
  |rfl
  |(simp only[SV.eqrs,Bool.and_eq_true]at h;simp only[SV.dens,SV.aD _ _ h.1,SV.fB _ _ h.2];done)
end
def CK.eqr(r:c8):CK→CK→Bool
 |.int a,.int b=>gw a b
 |.bool,.bool=>true
 |.ptr a,.ptr b=>r.v a b
 |.val a,.val b=>r.v a b
 |.byte,.byte=>true
 |_,_=>false
def CK.eqrs(r:c8):List CK→List CK→Bool
 |[],[]=>true
 |s::l,t::m=>s.eqr r t&&CK.eqrs r l m
 |_,_=>false
theorem CK.aa5{r:c8}{ρ:ap}{a b:CK}(h:a.eqr r b=true)(i:Nat)(n:Int):b.v (r.env ρ) i n=a.v ρ i n:=by
 cases a<;>cases b<;>first
  |(cases h;done)
  |rfl
  |(simp only[CK.eqr]at h;rw[bY h];rfl)
  |(simp only[CK.eqr]at h;simp only[CK.v,c8.env,c8.fq h];done)
theorem CK.tk{r:c8}:∀{l m:List CK},CK.eqrs r l m=true→l.length=m.length∧∀(j:Nat) (b:CK),m[j]? =some b→∃a,l[j]? =some a∧a.eqr r b=true
 |[],[],_=>⟨rfl,fun j b h=>by simp at h⟩
 |[],_::_,h=>by cases h
 |_::_,[],h=>by cases h
 |s::l,t::m,h=>by
  simp only[CK.eqrs,Bool.and_eq_true]at h
  obtain⟨h1,h2⟩:=CK.tk h.2
  refine⟨by simp[h1],fun j b hb=>?_⟩
  cases j with
  |zero=>obtain rfl:=Option.some.inj hb;exact⟨s,rfl,h.1⟩
  |succ j=>exact h2 j b (by simpa using hb)
def a6o:List (Int×Nat)→List (Int×Nat)→Bool
 |[],[]=>true
 |a::l,b::m=>iEq a.1 b.1&&(Nat.beq a.2 b.2&&a6o l m)
 |_,_=>false
theorem N3:∀{l m:List (Int×Nat)},a6o l m=true→l=m
 |[],[],_=>rfl
 |[],_::_,h=>by cases h
 |_::_,[],h=>by cases h
 |(a,c)::l,(b,d)::m,h=>by
  simp only[a6o,Bool.and_eq_true]at h
  rw[sw h.1,Nat.eq_of_beq_eq_true h.2.1,N3 h.2.2]
def nK:List Int→List Int→Bool
 |[],[]=>true
 |a::l,b::m=>iEq a b&&nK l m
 |_,_=>false
theorem lU:∀{l m:List Int},nK l m=true→l=m
 |[],[],_=>rfl
 |[],_::_,h=>by cases h
 |_::_,[],h=>by cases h
 |a::l,b::m,h=>by
  simp only[nK,Bool.and_eq_true]at h
  rw[sw h.1,lU h.2]
def aa6:Option (List (Int×Nat))→Option (List (Int×Nat))→Bool
 |none,none=>true
 |some l,some m=>a6o l m
 |_,_=>false
theorem Xj{l m:Option (List (Int×Nat))}(h:aa6 l m=true):l=m:=by
 cases l<;>cases m<;>first|rfl|(cases h;done)|(rw[N3 h])
def am.eqr(r:c8):am→am→Bool
 |.cells e l,.cells f m=>Nat.beq e f&&SV.eqrs r l m
 |.lst e ks n le,.lst f js m me=>Nat.beq e f&&(CK.eqrs r ks js&&(n.eqr r m&&le.eqr r me))
 |.fam e ks n le,.fam f js m me=>Nat.beq e f&&(CK.eqrs r ks js&&(n.eqr r m&&le.eqr r me))
 |.any e z,.any f y=>Nat.beq e f&&Nat.beq z y
 |.mp l,.mp m=>aa6 l m
 |.mi l,.mi m=>nK l m
 |.glob e g k l,.glob f h j m=>Nat.beq e f&&(Nat.beq g h&&(gw k j&&nK l m))
 |.sls e ks n le,.sls e' js m me=>Nat.beq e e'&&(wS ks js&&(n.eqr r m&&le.eqr r me))
 |_,_=>false
theorem am.eM{r:c8}{ρ:ap}{a b:am}(h:a.eqr r b=true){v u:Nat}(hv:r.v v u=true)(c:Nat):b.owns (r.env ρ) u c↔a.owns ρ v c:=by
 have hb:=c8.fq hv
 cases a<;>cases b<;>first
  |(cases h;done)
  |(simp only[am.owns,c8.env,hb];done)
  |skip
 ·simp only[am.eqr,Bool.and_eq_true]at h
  simp only[am.owns,IE.aD _ _ h.2.2.1]
  simp only[c8.env,hb]
 ·simp only[am.eqr,Bool.and_eq_true]at h
  have:=Nat.eq_of_beq_eq_true h.1;subst this
  simp only[am.owns,IE.aD _ _ h.2.2.1]
  simp only[c8.env,hb]
theorem am.gg{r:c8}{ρ:ap}{w:World}{a b:am}(h:a.eqr r b=true){v u:Nat}(hv:r.v v u=true)(hh:a.holds ρ v w):b.holds (r.env ρ) u w:=by
 have hb:=c8.fq hv
 cases a<;>cases b<;>first|(cases h;done)|skip
 ·simp only[am.eqr,Bool.and_eq_true]at h
  have:=Nat.eq_of_beq_eq_true h.1;subst this
  simp only[am.holds,←SV.b9,SV.fB _ _ h.2]at hh⊢
  simp only[c8.env,hb];exact hh
 ·simp only[am.eqr,Bool.and_eq_true]at h
  have:=Nat.eq_of_beq_eq_true h.1;subst this
  obtain⟨hlen,hget⟩:=CK.tk h.2.1
  simp only[am.holds,IE.aD _ _ h.2.2.1,LE.aD _ _ h.2.2.2]at hh⊢
  refine⟨fun hf=>?_,fun ht=>?_⟩
  ·simp only[c8.env,hb]at hf⊢;exact hh.1 hf
  ·simp only[c8.env,hb]at ht
   obtain⟨cs,c,h1,h2,h3,h4,h5⟩:=hh.2 ht
   refine⟨cs,c,?_,?_,?_,h4,fun i hi j k hk=>?_⟩
   ·simp only[c8.env,hb];exact h1
   ·simp only[c8.env,hb];exact h2
   ·simp only[c8.env,hb];rw[←hlen];exact h3
   ·obtain⟨k',hk',he⟩:=hget j k hk
    rw[CK.aa5 he,←h5 i hi j k' hk',hlen]
    simp only[c8.env,hb]
 ·simp only[am.eqr,Bool.and_eq_true]at h
  have:=Nat.eq_of_beq_eq_true h.1;subst this
  obtain⟨hlen,hget⟩:=CK.tk h.2.1
  simp only[am.holds,IE.aD _ _ h.2.2.1,LE.aD _ _ h.2.2.2]at hh⊢
  refine⟨fun i hi=>?_,fun i j hi hj he=>?_⟩
  ·obtain⟨cs,h1,h2,h3⟩:=hh.1 i hi
   refine⟨cs,by simp only[c8.env,hb];exact h1,by rw[←hlen];exact h2,fun j k hk=>?_⟩
   obtain⟨k',hk',he⟩:=hget j k hk
   rw[CK.aa5 he];exact h3 j k' hk'
  ·simp only[c8.env,hb]at he;exact hh.2 i j hi hj he
 ·simp only[am.eqr,Bool.and_eq_true]at h
  have:=Nat.eq_of_beq_eq_true h.1;subst this
  have:=Nat.eq_of_beq_eq_true h.2;subst this
  simp only[am.holds,c8.env,hb]at hh⊢;exact hh
 ·simp only[am.eqr]at h
  have:=Xj h;subst this
  rename_i l
  cases l<;>(simp only[am.holds,c8.env,hb]at hh⊢;exact hh)
 ·simp only[am.eqr]at h
  have:=lU h;subst this
  simp only[am.holds,c8.env,hb]at hh⊢;exact hh
 ·simp only[am.eqr,Bool.and_eq_true]at h
  have:=Nat.eq_of_beq_eq_true h.1;subst this
  have:=Nat.eq_of_beq_eq_true h.2.1;subst this
  have:=bY h.2.2.1;subst this
  have:=lU h.2.2.2;subst this
  simp only[am.holds,c8.env,hb]at hh⊢;exact hh
 ·simp only[am.eqr,Bool.and_eq_true]at h
  have:=Nat.eq_of_beq_eq_true h.1;subst this
  have:=rU h.2.1;subst this
  simp only[am.holds,IE.aD _ _ h.2.2.1,LE.aD _ _ h.2.2.2]at hh⊢
  simp only[c8.env,hb];exact hh
def xc(r:c8):aY→aY→Bool
 |.reg c s,.reg d t=>c.eqr r d&&s.eqr r t
 |.row o a,.row p b=>(o==p)&&a.eqr r b
 |_,_=>false
def N4(r:c8):aO→aO
 |.r t=> .r t
 |.h id=> .h (r.back id)
def N5(r:c8):aO→Bool
 |.r _=>true
 |.h id=>r.v (r.back id) id
def gH(r:c8)(from_:af)(whole:af):af→Bool
 |[]=>true
 |(k,_)::l=>(match ai k whole with
    |some .gone=>true
    |some e=>N5 r k&&(match ai (N4 r k) from_ with
     |some e'=>xc r e' e
     |none=>false)
    |none=>true)&&gH r from_ whole l
theorem nM{r:c8}{f whole:af}:∀{l:af},gH r f whole l=true→∀k,cn k l=true→∀e,ai k whole=some e→(e=.gone)∨(N5 r k=true∧∃e',ai (N4 r k) f=some e'∧xc r e' e=true)
 |[],_,k,h,e,_=>by cases h
 |(j,x)::l,h,k,hk,e,he=>by
  simp only[gH,Bool.and_eq_true]at h
  simp only[cn,Bool.or_eq_true]at hk
  rcases hk with hk|hk
  ·have:=aO.dJ.1 hk
   subst this
   have h1:=h.1
   rw[he]at h1
   cases e with
   |gone=>exact .inl rfl
   |reg c s=>
    refine .inr ?_
    simp only[Bool.and_eq_true]at h1
    refine⟨h1.1,?_⟩
    have h2:=h1.2
    split at h2
    ·rename_i e' he';exact⟨e',he',h2⟩
    ·cases h2
   |row o y=>
    refine .inr ?_
    simp only[Bool.and_eq_true]at h1
    refine⟨h1.1,?_⟩
    have h2:=h1.2
    split at h2
    ·rename_i e' he';exact⟨e',he',h2⟩
    ·cases h2
  ·exact nM h.2 k hk e he
theorem P5{r:c8}{nt:Nat}{ρ:ap}{A B:af}{a:Act}(h:gH r A B B=true)(ha:RD nt ρ A a):RD nt (r.env ρ) B a:=by
 refine⟨ha.defers,ha.size,fun t c s hl=>?_⟩
 rcases nM h (.r t) (jb hl) _ hl with g|⟨_,e',h1,h2⟩
 ·cases g
 ·cases e' with
  |reg d u=>
   simp only[xc,Bool.and_eq_true]at h2
   rw[ha.regs t d u h1,BE.aD _ _ h2.1,SV.aD _ _ h2.2]
  |row o y=>cases h2
  |gone=>cases h2
theorem uZ{r:c8}{C:bp}{ρ:ap}{A B:af}{w:World}(h:gH r A B B=true)(ha:HD C ρ A w):HD C (r.env ρ) B w:=by
 have key:∀id o x,ai (.h id) B=some (.row o x)→r.v (r.back id) id=true∧∃y,ai (.h (r.back id)) A=some (.row o y)∧y.eqr r x=true:=by
  intro id o x hl
  rcases nM h (.h id) (jb hl) _ hl with g|⟨h0,e',h1,h2⟩
  ·cases g
  ·cases e' with
   |reg d u=>cases h2
   |row p y=>
    simp only[xc,Bool.and_eq_true,beq_iff_eq]at h2
    obtain⟨rfl,h2⟩:=h2
    exact⟨h0,y,h1,h2⟩
   |gone=>cases h2
 refine⟨fun id o x hl=>?_,fun id x hl b hb=>?_,fun id x hl b hb=>?_,fun i j x y hi hj b hb1 hb2=>?_,fun i j x y hij hi hj b hb1 hb2=>?_,ha.fr⟩
 ·obtain⟨hv,y,hy,he⟩:=key id o x hl
  exact am.gg he hv (ha.rows _ _ _ hy)
 ·obtain⟨hv,y,hy,he⟩:=key id true x hl
  exact ha.own _ _ hy b ((am.eM he hv b).1 hb)
 ·obtain⟨hv,y,hy,he⟩:=key id false x hl
  exact ha.ro _ _ hy b ((am.eM he hv b).1 hb)
 ·obtain⟨hv1,y1,hy1,he1⟩:=key i false x hi
  obtain⟨hv2,y2,hy2,he2⟩:=key j true y hj
  exact ha.dis _ _ _ _ hy1 hy2 b ((am.eM he1 hv1 b).1 hb1) ((am.eM he2 hv2 b).1 hb2)
 ·obtain⟨hv1,y1,hy1,he1⟩:=key i true x hi
  obtain⟨hv2,y2,hy2,he2⟩:=key j true y hj
  have hne:r.back i≠r.back j:=by
   intro e
   rw[e]at hv1
   have h1:=hv1;have h2:=hv2
   unfold c8.v at h1 h2
   cases hc:(Nat.ble r.m (r.back j)&&Nat.blt (r.back j) (r.m+r.d))
   ·rw[hc]at h1 h2
    simp only[cond_false,Bool.and_eq_true]at h1 h2
    exact hij ((Nat.eq_of_beq_eq_true h1.1).symm.trans (Nat.eq_of_beq_eq_true h2.1))
   ·rw[hc]at h1 h2
    simp only[cond_true]at h1 h2
    exact hij ((Nat.eq_of_beq_eq_true h1).trans (Nat.eq_of_beq_eq_true h2).symm)
  exact ha.sep _ _ _ _ hne hy1 hy2 b ((am.eM he1 hv1 b).1 hb1) ((am.eM he2 hv2 b).1 hb2)
end
section
variable [cg] [Fm]
inductive Item where
 |ri (t:Nat)
 |rb (t:Nat)
 |ci (id o:Nat)
 |cb (id o:Nat)
 |fm (id:Nat)
 |lc (id:Nat)
 |mw (id:Nat)
 |rl (t:Nat) (own:Bool) (e:TypeId) (ks:List CK)
 |cl (id o:Nat) (own:Bool) (e:TypeId) (ks:List CK)
 |gf (id o:Nat) (e ef:TypeId) (ks:List CK)
 |gl (id o:Nat) (e:TypeId)
 |sf (t:Nat) (e eY:TypeId) (ks:List IntKind)
 |sg (t:Nat) (e:TypeId)
def Ho(own:Bool)(e:TypeId)(ks:List CK)(v:Nat)(s:SV)(H:af):Option (af×List F):=
 match s with
 |.nils=>some ([(.h v,.row own (.lst e ks (.var v) (.var v)))],[.be (.cmp .eql (.var v) (.lit 0))])
 |.lst id=>match ai (.h id) H with
  |some (.row o (.lst e' ks' m le))=>bif Nat.beq e e'&&(dl.CK.eqs0 ks ks'&&(!own||o))then
   some ((.h v,.row own (.lst e ks (.var v) (.var v)))::(bif own then[(.h id,.gone)]else[(.h id,.row false (.lst e' ks' m le))]),[.be (.cmp .eql (.var v) m),.rel 0 [] [.var v,le]])
   else none
  |_=>none
 |_=>none
def gfL(v:Nat)(e ef:TypeId)(ks:List CK)(s:SV)(H:af):Option (af×List F):=
 match s with
 |.nils=>some ([(.h v,.row true (.fam ef ks (.lit 0) (.var v)))],[])
 |.lst L=>match ai (.h L) H with
  |some (.row true (.lst e' [.ptr F] m q))=>match ai (.h F) H with
   |some (.row true (.fam ef' ks' mF lf))=>bif Nat.beq e e'&&(Nat.beq ef ef'&&dl.CK.eqs0 ks ks')then
    some ([(.h L,.row true (.lst e [.ptr v] m q)),(.h v,.row true (.fam ef ks mF (.var v))),(.h F,.gone)],[.rel 0 [] [.var v,lf]])
    else none
   |_=>none
  |_=>none
 |_=>none
def glL(v:Nat)(e:TypeId)(s:SV)(H:af):Option (af×List F):=
 match ai (.h (v-1)) H with
 |some (.row true (.fam ef ks mF le))=>bif !(Nat.ble 1 v)then none else
  match s with
  |.nils=>match mF with
   |.lit (.ofNat 0)=>some ([(.h v,.row true (.lst e [.ptr (v-1)] (.var v) (.var v))),(.h (v-1),.row true (.fam ef ks (.var v) le))],[.be (.cmp .eql (.var v) (.lit 0))])
   |_=>none
  |.lst L=>match ai (.h L) H with
   |some (.row true (.lst e' [.ptr Fm] m q))=>bif Nat.beq e e'&&(Nat.beq Fm (v-1)&&m.eq mF)then
    some ([(.h v,.row true (.lst e [.ptr (v-1)] (.var v) (.var v))),(.h L,.gone),(.h (v-1),.row true (.fam ef ks (.var v) le))],[.be (.cmp .eql (.var v) m)])
    else none
   |_=>none
  |_=>none
 |_=>none
def sfL(v:Nat)(e eY:TypeId)(ks:List IntKind)(s:SV)(H:af):Option (af×List F):=
 match s with
 |.nils=>some ([(.h v,.row false (.sls eY ks (.lit 0) (.var v)))],[])
 |.lst L=>match ai (.h L) H with
  |some (.row true (.lst e' [.val S] m q))=>match ai (.h S) H with
   |some (.row false (.sls eY' ks' mS leS))=>bif Nat.beq e e'&&(Nat.beq eY eY'&&wS ks ks')then some ([(.h L,.row true (.lst e [.val v] m q)),(.h v,.row false (.sls eY ks mS (.var v)))],[.rel 0 [] [.var v,leS]])else none
   |_=>none
  |_=>none
 |_=>none
def sgL(v:Nat)(e:TypeId)(s:SV)(H:af):Option (af×List F):=
 match ai (.h (v-1)) H with
 |some (.row false (.sls eY ks mS leS))=>bif !(Nat.ble 1 v)then none else
  match s with
  |.nils=>match mS with
   |.lit (.ofNat 0)=>some ([(.h v,.row true (.lst e [.val (v-1)] (.var v) (.var v))),(.h (v-1),.row false (.sls eY ks (.var v) leS))],[.be (.cmp .eql (.var v) (.lit 0))])
   |_=>none
  |.lst L=>match ai (.h L) H with
   |some (.row true (.lst e' [.val S] m q))=>bif Nat.beq e e'&&(Nat.beq S (v-1)&&m.eq mS)then
    some ([(.h v,.row true (.lst e [.val (v-1)] (.var v) (.var v))),(.h L,.gone),(.h (v-1),.row false (.sls eY ks (.var v) leS))],[.be (.cmp .eql (.var v) m)])
    else none
   |_=>none
  |_=>none
 |_=>none
def eN(it:Item)(v:Nat)(b:Br):Option (Br×List F):=
 match it with
 |.ri t=>match ai (.r t) b.R with
  |some (.reg (.lit true) (.int k e))=>some ({b with R:=(.r t,.reg (.lit true) (.int k (.var v)))::b.R},[.be (.cmp .eql (.var v) e)])
  |_=>none
 |.rb t=>match ai (.r t) b.R with
  |some (.reg (.lit true) (.b e))=>some ({b with R:=(.r t,.reg (.lit true) (.b (.var v)))::b.R},[.be (.eqb (.var v) e)])
  |_=>none
 |.ci id o=>match ai (.h id) b.H with
  |some (.row true (.cells el l))=>match l[o]? with
   |some (.int k e)=>some ({b with H:=(.h id,.row true (.cells el (l.set o (.int k (.var v)))))::b.H,pre:=(.h id,.row true (.cells el (l.set o (.int k (.var v)))))::b.pre},[.be (.cmp .eql (.var v) e)])
   |_=>none
  |_=>none
 |.cb id o=>match ai (.h id) b.H with
  |some (.row true (.cells el l))=>match l[o]? with
   |some (.b e)=>some ({b with H:=(.h id,.row true (.cells el (l.set o (.b (.var v)))))::b.H,pre:=(.h id,.row true (.cells el (l.set o (.b (.var v)))))::b.pre},[.be (.eqb (.var v) e)])
   |_=>none
  |_=>none
 |.lc id=>match ai (.h id) b.H with
  |some (.row true (.lst el ks n le))=>bif !(Nat.beq el 0)then some ({b with H:=(.h id,.row true (.lst el ks n (.var v)))::b.H,pre:=(.h id,.row true (.lst el ks n (.var v)))::b.pre},[.rel 0 [] [.var v,le]])else none
  |_=>none
 |.mw id=>match ai (.h id) b.H with
  |some (.row true (.mi _))=>some ({b with H:=(.h id,.row true (.mp none))::b.H,pre:=(.h id,.row true (.mp none))::b.pre},[])
  |some (.row true (.mp none))=>some ({b with H:=(.h id,.row true (.mp none))::b.H,pre:=(.h id,.row true (.mp none))::b.pre},[])
  |_=>none
 |.rl t own e ks=>bif !(bm ks)then none else match ai (.r t) b.R with
  |some (.reg (.lit true) s)=>match Ho own e ks v s b.H with
   |some (lg,eqs)=>some ({b with R:=(.r t,.reg (.lit true) (.lst v))::b.R,H:=lg++b.H,pre:=lg++b.pre},eqs)
   |none=>none
  |_=>none
 |.cl id o own e ks=>bif !(bm ks)then none else match ai (.h id) b.H with
  |some (.row true (.cells el l))=>match l[o]? with
   |some s=>match Ho own e ks v s b.H with
    |some (lg,eqs)=>match ai (.h id) (lg++b.H)with
     |some (.row true (.cells el' l'))=>bif Nat.beq el el'&&SV.eqrs ⟨0,0,0⟩ l l' then
      some ({b with H:=(.h id,.row true (.cells el (l.set o (.lst v))))::(lg++b.H),pre:=(.h id,.row true (.cells el (l.set o (.lst v))))::(lg++b.pre)},eqs)
      else none
     |_=>none
    |none=>none
   |none=>none
  |_=>none
 |.gf id o e ef ks=>bif !(bm ks)then none else match ai (.h id) b.H with
  |some (.row true (.cells el l))=>match l[o]? with
   |some s=>match gfL v e ef ks s b.H with
    |some (lg,eqs)=>some ({b with H:=lg++b.H,pre:=lg++b.pre},eqs)
    |none=>none
   |none=>none
  |_=>none
 |.gl id o e=>match ai (.h id) b.H with
  |some (.row true (.cells el l))=>match l[o]? with
   |some s=>match glL v e s b.H with
    |some (lg,eqs)=>match ai (.h id) (lg++b.H)with
     |some (.row true (.cells el' l'))=>bif Nat.beq el el'&&SV.eqrs ⟨0,0,0⟩ l l' then
      some ({b with H:=(.h id,.row true (.cells el (l.set o (.lst v))))::(lg++b.H),pre:=(.h id,.row true (.cells el (l.set o (.lst v))))::(lg++b.pre)},eqs)
      else none
     |_=>none
    |none=>none
   |none=>none
  |_=>none
 |.sf t e eY ks=>match ai (.r t) b.R with
  |some (.reg (.lit true) s)=>match sfL v e eY ks s b.H with
   |some (lg,eqs)=>some ({b with H:=lg++b.H,pre:=lg++b.pre},eqs)
   |none=>none
  |_=>none
 |.sg t e=>match ai (.r t) b.R with
  |some (.reg (.lit true) s)=>match sgL v e s b.H with
   |some (lg,eqs)=>some ({b with R:=(.r t,.reg (.lit true) (.lst v))::b.R,H:=lg++b.H,pre:=lg++b.pre},eqs)
   |none=>none
  |_=>none
 |.fm id=>match ai (.h id) b.H with
  |some (.row true (.fam el ks n le))=>some ({b with H:=(.h id,.row true (.fam el ks n (.var v)))::b.H,pre:=(.h id,.row true (.fam el ks n (.var v)))::b.pre},[.rel 0 [] [.var v,le]])
  |_=>none
theorem HD.repl{C:bp}{ρ:ap}{L:af}{w:World}(H:HD C ρ L w){id:Nat}{r r':am}(hl:ai (.h id) L=some (.row true r))(hown:∀c,r'.owns ρ id c↔r.owns ρ id c)(hh:r'.holds ρ id w):HD C ρ ((.h id,.row true r')::L) w:=
 H.step rfl rfl rfl (Nat.le_refl _) (fun _ _=>rfl) (fun _ _ _ _ _ _ _=>rfl) hh (fun _ c hc=>H.own id r hl c ((hown c).1 hc)) (fun h=>by cases h)
  (fun i p s hi hs _ c hc=>H.apart (fun e=>hi e.symm) hl hs (.inl rfl) ((hown c).1 hc))
def Cv(ρ:ap)(n:Nat)(z:Bool):ap:={ρ with b:=fun v=>if v=n then z else ρ.b v}
theorem Cw(ρ:ap)(n:Nat)(z:Bool):b7 n (n+1) ρ (Cv ρ n z):=by
 constructor<;>intro v hv<;>first|rfl|(simp only[Cv];rw[if_neg (by omega)])
theorem jR{v m:Nat}(h:v<m):off m ay v=true:=by
 unfold off;rw[Bool.or_eq_true];exact .inl (Nat.ble_eq_true_of_le h)
theorem SV.ld{lo hi:Nat}{s:SV}(hs:s.avo lo hi=true):∀{l:List SV} {o:Nat},SV.avos lo hi l=true→SV.avos lo hi (l.set o s)=true
 |[],o,h=>h
 |x::l,0,h=>by simp only[SV.avos,Bool.and_eq_true]at h;simp only[List.set_cons_zero,SV.avos,hs,h.2,Bool.and_self]
 |x::l,o+1,h=>by simp only[SV.avos,Bool.and_eq_true]at h;simp only[List.set_cons_succ,SV.avos,h.1,SV.ld hs h.2,Bool.and_self]
theorem eO{ρ:ap}{s t:SV}:∀{l:List SV} {o:Nat},l[o]? =some s→t.den ρ=s.den ρ→(l.set o t).map (SV.den ρ)=l.map (SV.den ρ)
 |[],o,h,_=>by simp at h
 |x::l,0,h,he=>by obtain rfl:=Option.some.inj h;simp only[List.set_cons_zero,List.map_cons,he]
 |x::l,o+1,h,he=>by simp only[List.set_cons_succ,List.map_cons];rw[eO (by simpa using h) he]
theorem SV.gI{lo hi:Nat}:∀{l:List SV} {o:Nat} {s:SV},SV.avos lo hi l=true→l[o]? =some s→s.avo lo hi=true
 |[],o,s,_,h=>by simp at h
 |x::l,0,s,g,h=>by obtain rfl:=Option.some.inj h;simp only[SV.avos,Bool.and_eq_true]at g;exact g.1
 |x::l,o+1,s,g,h=>by simp only[SV.avos,Bool.and_eq_true]at g;exact SV.gI g.2 (by simpa using h)
def gU(ρ:ap)(n:Nat)(b:Bool)(k off:Nat)(x:Value)(l:Nat→Nat→Int)(z:Int):ap:=eG (aW ρ n b k off x l) n z
theorem gh(ρ:ap)(n:Nat)(b:Bool)(k off:Nat)(x:Value)(l:Nat→Nat→Int)(z:Int):b7 n (n+1) ρ (gU ρ n b k off x l z):=
 (et ρ n b k off x l).trans (dT _ n z) (Nat.le_refl _) (Nat.le_refl _)
theorem lV(ρ:ap)(n:Nat)(b:Bool)(k off:Nat)(x:Value)(l:Nat→Nat→Int)(z:Int):(gU ρ n b k off x l z).b n=b∧(gU ρ n b k off x l z).k n=k∧(gU ρ n b k off x l z).f n 0=off∧(gU ρ n b k off x l z).x n=x∧(gU ρ n b k off x l z).l n=l∧(gU ρ n b k off x l z).i n=z:=by simp[gU,aW,eG]
theorem N6{own:Bool}{e:TypeId}{ks:List CK}{v:Nat}{s:SV}{H lg:af}{eqs:List F}(h:Ho own e ks v s H=some (lg,eqs))(hH:af.avo v (v+1) H=true){C:bp}{ρ:ap}{w:World}(hd:HD C ρ H w):
 ∃ρ',b7 v (v+1) ρ ρ'∧HD C ρ' (lg++H) w∧ar ρ' eqs∧ρ'.x v=s.den ρ:=by
 unfold Ho at h
 split at h
 ·simp only[Option.some.injEq,Prod.mk.injEq]at h;obtain⟨rfl,rfl⟩:=h
  have hag:=gh ρ v false 0 0 (.slice none 0 0) (fun _ _=>0) 0
  obtain⟨s1,s2,s3,s4,s5,s6⟩:=lV ρ v false 0 0 (.slice none 0 0) (fun _ _=>0) 0
  have hno:∀b,¬(am.lst e ks (.var v) (.var v)).owns (gU ρ v false 0 0 (.slice none 0 0) (fun _ _=>0) 0) v b:=by
   intro b hb;simp only[am.owns,s1]at hb;cases hb.1
  refine⟨_,hag,(hd.agr hag hH).step rfl rfl rfl (Nat.le_refl _) (fun _ _=>rfl) (fun _ _ _ _ _ _ _=>rfl) ?_ (fun _ b hb=>absurd hb (hno b)) (fun _ b hb=>absurd hb (hno b)) (fun _ _ _ _ _ _ b hb=>absurd hb (hno b)),aa.2 ⟨?_,aj _⟩,s4⟩
  ·simp only[am.holds,s1,s4,IE.den,s6]
   exact⟨fun _=>⟨rfl,.inl trivial⟩,fun h=>by cases h⟩
  ·simp only[F.holds,BE.den,bv,IE.den,s6];rfl
 ·rename_i id
  split at h
  ·rename_i o e' ks' m le hl
   generalize hg:(Nat.beq e e'&&(dl.CK.eqs0 ks ks'&&(!own||o)))=g at h
   cases g with
   |false=>cases h
   |true=>
    simp only[cond_true,Option.some.injEq,Prod.mk.injEq]at h;obtain⟨rfl,rfl⟩:=h
    simp only[Bool.and_eq_true,Bool.or_eq_true,Bool.not_eq_true']at hg
    obtain⟨g1,g2,g3⟩:=hg
    have:=Nat.eq_of_beq_eq_true g1;subst this
    have:=dl.lF g2;subst this
    have hrow:=(bz ρ id w e ks m le).1 (hd.rows id o _ hl)
    have hav:=af.al hH hl
    have hav2:=hav.2
    simp only[aY.avo,am.avo,Bool.and_eq_true,List.all_eq_true]at hav2
    let ρ':=gU ρ v (ρ.b id) (ρ.k id) (ρ.f id 0) (ρ.x id) (le.den ρ) (m.den ρ)
    have hag:b7 v (v+1) ρ ρ':=gh _ _ _ _ _ _ _ _
    obtain⟨s1,s2,s3,s4,s5,s6⟩:=lV ρ v (ρ.b id) (ρ.k id) (ρ.f id 0) (ρ.x id) (le.den ρ) (m.den ρ)
    have hm:m.den ρ'=m.den ρ:=IE.ag hag m hav2.1
    have hle:le.den ρ'=le.den ρ:=LE.ag hag le hav2.2.1
    have hb':ρ'.b id=ρ.b id:=hag.b id (aF hav.1)
    have hk':ρ'.k id=ρ.k id:=hag.k id (aF hav.1)
    have hd':=hd.agr hag hH
    have howns:∀b,(am.lst e ks (.var v) (.var v)).owns ρ' v b↔(am.lst e ks m le).owns ρ' id b:=by
     intro b;simp only[am.owns];rw[show ρ'.b v=ρ.b id from s1,show ρ'.k v=ρ.k id from s2,hb',hk']
    have hnew:(am.lst e ks (.var v) (.var v)).holds ρ' v w:=by
     rw[bz]
     rw[show ρ'.b v=ρ.b id from s1,show ρ'.k v=ρ.k id from s2,show ρ'.f v 0=ρ.f id 0 from s3,show ρ'.x v=ρ.x id from s4]
     simp only[IE.den,LE.den]
     rw[show ρ'.i v=m.den ρ from s6,show ρ'.l v=le.den ρ from s5]
     refine hrow.mono fun i hi j x hx=>?_
     unfold n8 at hx⊢
     cases hkj:ks[j]? with
     |none=>rw[hkj]at hx;cases hx
     |some k=>
      rw[hkj]at hx
      rw[←hx]
      exact congrArg some (CK.MM hag (hav2.2.2 k (List.mem_of_getElem? hkj)) i _).symm
    have heqs:ar ρ' [.be (.cmp .eql (.var v) m),.rel 0 [] [.var v,le]]:=by
     refine aa.2 ⟨?_,aa.2 ⟨?_,aj _⟩⟩
     ·simp only[F.holds,BE.den,bv,IE.den,hm];rw[show ρ'.i v=m.den ρ from s6];simp
     ·simp only[F.holds,List.map_cons,List.map_nil,bF,uG,LE.den,hle];exact s5
    refine⟨ρ',hag,?_,heqs,s4⟩
    cases own with
    |true=>
     have ho:o=true:=by rcases g3 with g3|g3;cases g3;exact g3
     subst ho
     have hsub:HD C ρ' ((.h id,.gone)::H) w:=hd'.sub fun i o q hq=>by
      rw[ak]at hq
      by_cases he:aO.h id=aO.h i
      ·rw[if_pos he]at hq;cases hq
      ·rw[if_neg he]at hq;exact hq
     show HD C ρ' ((.h v,.row true _)::((.h id,.gone)::H)) w
     refine hsub.step rfl rfl rfl (Nat.le_refl _) (fun _ _=>rfl) (fun _ _ _ _ _ _ _=>rfl) hnew (fun _ b hb=>hd'.own id _ hl b ((howns b).1 hb)) (fun h=>by cases h) (fun i p q hi hq _ b hb hc=>?_)
     rw[ak]at hq
     by_cases he:aO.h id=aO.h i
     ·rw[if_pos he]at hq;cases hq
     ·rw[if_neg he]at hq
      exact hd'.apart (fun e=>he (by rw[e])) hl hq (.inl rfl) ((howns b).1 hb) hc
    |false=>
     have hdem:HD C ρ' ((.h id,.row false (.lst e ks m le))::H) w:=by
      refine hd'.step rfl rfl rfl (Nat.le_refl _) (fun _ _=>rfl) (fun _ _ _ _ _ _ _=>rfl) (hd'.rows id o _ hl) (fun h=>by cases h) (fun _ b hb=>?_) (fun i p q hi2 hq hor b hb=>hd'.apart (fun e=>hi2 e.symm) hl hq (.inr (hor.resolve_left (by decide))) hb)
      cases o
      ·exact hd'.ro id _ hl b hb
      ·exact .inr (hd'.own id _ hl b hb)
     show HD C ρ' ((.h v,.row false _)::((.h id,.row false _)::H)) w
     refine hdem.step rfl rfl rfl (Nat.le_refl _) (fun _ _=>rfl) (fun _ _ _ _ _ _ _=>rfl) hnew (fun h=>by cases h) (fun _ b hb=>hdem.ro id _ (bT _ _ _) b ((howns b).1 hb)) (fun i p q hi hq hor b hb hc=>?_)
     have hp:p=true:=hor.resolve_left (by decide)
     subst hp
     exact hdem.dis id i _ q (bT _ _ _) hq b ((howns b).1 hb) hc
  ·cases h
 ·cases h
theorem N7{own:Bool}{e:TypeId}{ks:List CK}{v:Nat}{s:SV}{H lg:af}{eqs:List F}(h:Ho own e ks v s H=some (lg,eqs))(hH:af.avo (v+1) ay H=true)(hks:ks.all (CK.avo (v+1) ay)=true):af.avo (v+1) ay lg=true∧F.avos (v+1) ay eqs=true:=by
 have hvo:off (v+1) ay v=true:=jR (Nat.lt_succ_self v)
 unfold Ho at h
 split at h
 ·simp only[Option.some.injEq,Prod.mk.injEq]at h;obtain⟨rfl,rfl⟩:=h
  exact⟨by simp only[af.avo,aO.avo,aY.avo,am.avo,IE.avo,LE.avo,hvo,hks,Bool.and_self],by simp only[F.avos,List.all_cons,List.all_nil,F.avo,BE.avo,IE.avo,hvo,Bool.and_self]⟩
 ·split at h
  ·rename_i id _ o e' ks' m le hl
   generalize hg:(Nat.beq e e'&&(dl.CK.eqs0 ks ks'&&(!own||o)))=g at h
   cases g with
   |false=>cases h
   |true=>
    simp only[cond_true,Option.some.injEq,Prod.mk.injEq]at h;obtain⟨rfl,rfl⟩:=h
    have hav:=af.al hH hl
    have hav2:=hav.2
    simp only[aY.avo,am.avo,Bool.and_eq_true]at hav2
    refine⟨?_,by simp only[F.avos,List.all_cons,List.all_nil,F.avo,BE.avo,IE.avo,LE.avo,hvo,hav2.1,hav2.2.1,Bool.and_self]⟩
    cases own
    ·simp only[cond_false,af.avo,aO.avo,aY.avo,am.avo,IE.avo,LE.avo,hvo,hks,hav2.1,hav2.2.1,hav2.2.2,show off (v+1) ay id=true from hav.1,Bool.and_self]
    ·simp only[cond_true,af.avo,aO.avo,aY.avo,am.avo,IE.avo,LE.avo,hvo,hks,show off (v+1) ay id=true from hav.1,Bool.and_self]
  ·cases h
 ·cases h
theorem N8{own:Bool}{e:TypeId}{ks:List CK}{v:Nat}{s:SV}{H:af}{r:af×List F}(h:Ho own e ks v s H=some r)(hp:bm ks=true):∀lo hi,ks.all (CK.avo lo hi)=true:=by
 intro lo hi
 clear h
 induction ks with
 |nil=>rfl
 |cons a l ih=>cases a<;>simp only[bm]at hp<;>first|(simp only[List.all_cons,CK.avo,ih hp,Bool.and_self];done)|cases hp
theorem Xk{ks:List CK}(hp:bm ks=true):∀lo hi,ks.all (CK.avo lo hi)=true:=by
 intro lo hi
 induction ks with
 |nil=>rfl
 |cons a l ih=>cases a<;>simp only[bm]at hp<;>first|(simp only[List.all_cons,CK.avo,ih hp,Bool.and_self];done)|cases hp
def Cy(ρ:ap)(v:Nat)(g:Nat→Nat)(l:Nat→Nat→Int)(z:Int):ap:=
 {ρ with i:=fun u=>if u=v then z else ρ.i u,l:=fun u=>if u=v then l else ρ.l u,f:=fun u=>if u=v then g else ρ.f u}
theorem Cz(ρ:ap)(v:Nat)(g:Nat→Nat)(l:Nat→Nat→Int)(z:Int):b7 v (v+1) ρ (Cy ρ v g l z):=by
 constructor<;>intro u hu<;>first|rfl|(simp only[Cy];rw[if_neg (by omega)])
theorem Xl(ρ:ap)(v:Nat)(g:Nat→Nat)(l:Nat→Nat→Int)(z:Int):(Cy ρ v g l z).i v=z∧(Cy ρ v g l z).l v=l∧(Cy ρ v g l z).f v=g:=by simp[Cy]
theorem abl{v:Nat}{e ef:TypeId}{ks:List CK}{s:SV}{H lg:af}{eqs:List F}(h:gfL v e ef ks s H=some (lg,eqs))(hp:bm ks=true)(hH:af.avo v (v+1) H=true){C:bp}{ρ:ap}{w:World}(hd:HD C ρ H w):
 ∃ρ',b7 v (v+1) ρ ρ'∧HD C ρ' (lg++H) w∧ar ρ' eqs:=by
 have hkv:∀(j:Nat) (k:CK),ks[j]? =some k→∀(ρ ρ':ap) (i i':Nat) (n:Int),k.v ρ i n=k.v ρ' i' n:=by
  clear h
  induction ks with
  |nil=>intro j k hk;simp at hk
  |cons a r ih=>
   intro j k hk ρ ρ' i i' n
   cases j with
   |zero=>
    obtain rfl:=Option.some.inj hk
    cases a<;>first|rfl|(simp only[bm]at hp;cases hp)
   |succ j=>exact ih (by cases a<;>simp only[bm]at hp<;>first|exact hp|cases hp) j k (by simpa using hk) ρ ρ' i i' n
 unfold gfL at h
 split at h
 ·simp only[Option.some.injEq,Prod.mk.injEq]at h;obtain⟨rfl,rfl⟩:=h
  have hag:=Cz ρ v (fun _=>0) (fun _ _=>0) 0
  obtain⟨s1,s2,s3⟩:=Xl ρ v (fun _=>0) (fun _ _=>0) 0
  have hno:∀b,¬(am.fam ef ks (.lit 0) (.var v)).owns (Cy ρ v (fun _=>0) (fun _ _=>0) 0) v b:=by
   intro b hb
   simp only[am.owns,IE.den]at hb
   obtain⟨i,hi,_⟩:=hb
   simp at hi
  refine⟨_,hag,(hd.agr hag hH).step rfl rfl rfl (Nat.le_refl _) (fun _ _=>rfl) (fun _ _ _ _ _ _ _=>rfl) ?_ (fun _ b hb=>absurd hb (hno b)) (fun _ b hb=>absurd hb (hno b)) (fun _ _ _ _ _ _ b hb=>absurd hb (hno b)),aj _⟩
  simp only[am.holds,IE.den]
  exact⟨fun i hi=>by simp at hi,fun i j hi=>by simp at hi⟩
 ·rename_i L
  split at h
  ·rename_i e' Fm m q hL
   split at h
   ·rename_i ef' ks' mF lf hF
    cases hg:(Nat.beq e e'&&(Nat.beq ef ef'&&dl.CK.eqs0 ks ks'))
    ·rw[hg]at h;cases h
    ·rw[hg]at h
     simp only[cond_true,Option.some.injEq,Prod.mk.injEq]at h;obtain⟨rfl,rfl⟩:=h
     simp only[Bool.and_eq_true]at hg
     have:=Nat.eq_of_beq_eq_true hg.1;subst this
     have:=Nat.eq_of_beq_eq_true hg.2.1;subst this
     have:=dl.lF hg.2.2;subst this
     have hLF:L≠Fm:=fun e=>by rw[e,hF]at hL;cases hL
     have avL:=af.al hH hL
     have avF:=af.al hH hF
     have avF2:=avF.2
     simp only[aY.avo,am.avo,Bool.and_eq_true,List.all_eq_true]at avF2
     have avL2:=avL.2
     simp only[aY.avo,am.avo,Bool.and_eq_true,List.all_eq_true]at avL2
     have hag:=Cz ρ v (ρ.f Fm) (lf.den ρ) (mF.den ρ)
     obtain⟨s1,s2,s3⟩:=Xl ρ v (ρ.f Fm) (lf.den ρ) (mF.den ρ)
     generalize hρ:Cy ρ v (ρ.f Fm) (lf.den ρ) (mF.den ρ)=ρ' at hag s1 s2 s3
     have hd':=hd.agr hag hH
     have eF:ρ'.f Fm=ρ.f Fm:=hag.f Fm (aF avF.1)
     have em:mF.den ρ'=mF.den ρ:=IE.ag hag mF avF2.1
     have el:lf.den ρ'=lf.den ρ:=LE.ag hag lf avF2.2.1
     have hvF:v≠Fm:=fun e=>by have:=aF avF.1;omega
     have hvL:v≠L:=fun e=>by have:=aF avL.1;omega
     have howns:∀c,(am.fam ef ks mF (.var v)).owns ρ' v c↔(am.fam ef ks mF lf).owns ρ' Fm c:=by
      intro c;simp only[am.owns,s3,em,eF]
     have hsub:HD C ρ' ((.h Fm,.gone)::H) w:=hd'.sub fun j o r hj=>by
      rw[ak]at hj
      by_cases hFj:aO.h Fm=aO.h j
      ·rw[if_pos hFj]at hj;cases hj
      ·rw[if_neg hFj]at hj;exact hj
     have h1:HD C ρ' ((.h v,.row true (.fam ef ks mF (.var v)))::(.h Fm,.gone)::H) w:=by
      refine hsub.step rfl rfl rfl (Nat.le_refl _) (fun _ _=>rfl) (fun _ _ _ _ _ _ _=>rfl) ?_ (fun _ c hc=>hd'.own Fm _ hF c ((howns c).1 hc)) (fun h=>by cases h) (fun j p t hj hlj _ c hc ht=>?_)
      ·have hf:=hd'.rows Fm true _ hF
       simp only[am.holds,em,eF,el]at hf
       simp only[am.holds,LE.den,s2,s3,em]
       refine⟨fun i hi=>?_,hf.2⟩
       obtain⟨cs,c1,c2,c3⟩:=hf.1 i hi
       exact⟨cs,c1,c2,c3⟩
      ·rw[ak]at hlj
       by_cases hFj:aO.h Fm=aO.h j
       ·rw[if_pos hFj]at hlj;cases hlj
       ·rw[if_neg hFj]at hlj
        exact hd'.apart (fun e=>hFj (by rw[e])) hF hlj (.inl rfl) ((howns c).1 hc) ht
     have hLn:ai (.h L) ((.h v,.row true (.fam ef ks mF (.var v)))::(.h Fm,.gone)::H)=some (.row true (.lst e [.ptr Fm] m q)):=by
      rw[ak,if_neg (fun e=>hvL (aO.h.inj e)),ak,if_neg (fun e=>hLF (aO.h.inj e).symm)];exact hL
     refine⟨ρ',hag,?_,aa.2 ⟨?_,aj _⟩⟩
     ·show HD C ρ' ((.h L,.row true (.lst e [.ptr v] m q))::((.h v,.row true (.fam ef ks mF (.var v)))::(.h Fm,.gone)::H)) w
      refine h1.repl hLn (fun c=>Iff.rfl) ?_
      have hl:=(bz ρ' L w e [.ptr Fm] m q).1 (h1.rows L true _ hLn)
      rw[bz]
      refine fS.mono hl fun i hi j x hx=>?_
      unfold n8 at hx⊢
      cases j with
      |zero=>
       simp only[List.getElem?_cons_zero,Option.map_some,CK.v]at hx⊢
       rw[←hx,s3,eF]
      |succ j=>simp at hx
     ·simp only[F.holds,List.map_cons,List.map_nil,bF,uG,LE.den,s2,el]
   ·cases h
  ·cases h
 ·cases h
theorem abm{v:Nat}{e:TypeId}{s:SV}{H lg:af}{eqs:List F}(h:glL v e s H=some (lg,eqs))(hH:af.avo v (v+1) H=true){C:bp}{ρ:ap}{w:World}(hd:HD C ρ H w):
 ∃ρ',b7 v (v+1) ρ ρ'∧HD C ρ' (lg++H) w∧ar ρ' eqs∧ρ'.x v=s.den ρ:=by
 unfold glL at h
 split at h
 ·rename_i ef ks mF le hF
  cases hv1:Nat.ble 1 v
  ·rw[hv1]at h;cases h
  rw[hv1]at h
  simp only[Bool.not_true,cond_false]at h
  have hv1:=Nat.le_of_ble_eq_true hv1
  have avF:=af.al hH hF
  have avF2:=avF.2
  simp only[aY.avo,am.avo,Bool.and_eq_true,List.all_eq_true]at avF2
  have relay:∀{ρ':ap} {M:af},HD C ρ' M w→ai (.h (v-1)) M=some (.row true (.fam ef ks mF le))→ρ'.i v=mF.den ρ'→HD C ρ' ((.h (v-1),.row true (.fam ef ks (.var v) le))::M) w:=by
   intro ρ' M hm hl he
   refine hm.repl hl (fun c=>?_) ?_
   ·simp only[am.owns,IE.den,he]
   ·have:=hm.rows _ true _ hl
    simp only[am.holds]at this
    simp only[am.holds,IE.den,he]
    exact this
  split at h
  ·split at h
   ·simp only[Option.some.injEq,Prod.mk.injEq]at h;obtain⟨rfl,rfl⟩:=h
    have hag:=gh ρ v false 0 0 (.slice none 0 0) (fun _ _=>0) 0
    obtain⟨s1,s2,s3,s4,s5,s6⟩:=lV ρ v false 0 0 (.slice none 0 0) (fun _ _=>0) 0
    have hno:∀b,¬(am.lst e [.ptr (v-1)] (.var v) (.var v)).owns (gU ρ v false 0 0 (.slice none 0 0) (fun _ _=>0) 0) v b:=by
     intro b hb;simp only[am.owns,s1]at hb;cases hb.1
    have h1:=relay (hd.agr hag hH) hF (by rw[s6];rfl)
    refine⟨_,hag,h1.step rfl rfl rfl (Nat.le_refl _) (fun _ _=>rfl) (fun _ _ _ _ _ _ _=>rfl) ?_ (fun _ b hb=>absurd hb (hno b)) (fun _ b hb=>absurd hb (hno b)) (fun _ _ _ _ _ _ b hb=>absurd hb (hno b)),aa.2 ⟨?_,aj _⟩,?_⟩
    ·simp only[am.holds,s1,s4,IE.den,s6]
     exact⟨fun _=>⟨rfl,.inl trivial⟩,fun h=>by cases h⟩
    ·simp only[F.holds,BE.den,bv,IE.den,s6];rfl
    ·rw[s4];rfl
   ·cases h
  ·rename_i L
   split at h
   ·rename_i e' Fm m q hL
    cases hg:(Nat.beq e e'&&(Nat.beq Fm (v-1)&&m.eq mF))
    ·rw[hg]at h;cases h
    ·rw[hg]at h
     simp only[cond_true,Option.some.injEq,Prod.mk.injEq]at h;obtain⟨rfl,rfl⟩:=h
     simp only[Bool.and_eq_true]at hg
     have:=Nat.eq_of_beq_eq_true hg.1;subst this
     have:=Nat.eq_of_beq_eq_true hg.2.1;subst this
     have:=IE.b8 _ _ hg.2.2;subst this
     have avL:=af.al hH hL
     have avL2:=avL.2
     simp only[aY.avo,am.avo,Bool.and_eq_true,List.all_eq_true]at avL2
     have hLF:L≠v-1:=fun e=>by rw[e,hF]at hL;cases hL
     have hag:=gh ρ v (ρ.b L) (ρ.k L) (ρ.f L 0) (ρ.x L) (fun _ _=>0) (m.den ρ)
     obtain⟨s1,s2,s3,s4,s5,s6⟩:=lV ρ v (ρ.b L) (ρ.k L) (ρ.f L 0) (ρ.x L) (fun _ _=>0) (m.den ρ)
     generalize hρ:gU ρ v (ρ.b L) (ρ.k L) (ρ.f L 0) (ρ.x L) (fun _ _=>0) (m.den ρ)=ρ' at hag s1 s2 s3 s4 s5 s6
     have hd0:=hd.agr hag hH
     have hm:m.den ρ'=m.den ρ:=IE.ag hag m avL2.1
     have hd':=relay hd0 hF (by rw[s6,hm])
     have hL':ai (.h L) ((.h (v-1),.row true (.fam ef ks (.var v) le))::H)=some (.row true (.lst e [.ptr (v-1)] m q)):=by
      rw[ak,if_neg (fun e=>hLF (aO.h.inj e).symm)];exact hL
     have eb:ρ'.b L=ρ.b L:=hag.b L (aF avL.1)
     have ek:ρ'.k L=ρ.k L:=hag.k L (aF avL.1)
     have ex:ρ'.x L=ρ.x L:=hag.x L (aF avL.1)
     have eff:ρ'.f L=ρ.f L:=hag.f L (aF avL.1)
     have howns:∀c,(am.lst e [.ptr (v-1)] (.var v) (.var v)).owns ρ' v c↔(am.lst e [.ptr (v-1)] m q).owns ρ' L c:=by
      intro c;simp only[am.owns,s1,s2,eb,ek]
     have hsub:HD C ρ' ((.h L,.gone)::(.h (v-1),.row true (.fam ef ks (.var v) le))::H) w:=hd'.sub fun j o r hj=>by
      rw[ak]at hj
      by_cases hFj:aO.h L=aO.h j
      ·rw[if_pos hFj]at hj;cases hj
      ·rw[if_neg hFj]at hj;exact hj
     refine⟨ρ',hag,?_,aa.2 ⟨?_,aj _⟩,?_⟩
     ·show HD C ρ' ((.h v,.row true (.lst e [.ptr (v-1)] (.var v) (.var v)))::(.h L,.gone)::(.h (v-1),.row true (.fam ef ks (.var v) le))::H) w
      refine hsub.step rfl rfl rfl (Nat.le_refl _) (fun _ _=>rfl) (fun _ _ _ _ _ _ _=>rfl) ?_ (fun _ c hc=>hd'.own L _ hL' c ((howns c).1 hc)) (fun h=>by cases h) (fun j p t hj hlj _ c hc ht=>?_)
      ·have hl:=(bz ρ' L w e [.ptr (v-1)] m q).1 (hd'.rows L true _ hL')
       rw[bz,s1,s2,s3,s4]
       rw[eb,ek,ex,eff,hm]at hl
       simp only[IE.den,s6]
       refine fS.mono hl fun i hi j x hx=>?_
       unfold n8 at hx⊢
       cases j with
       |zero=>
        simp only[List.getElem?_cons_zero,Option.map_some,CK.v]at hx⊢
        exact hx
       |succ j=>simp at hx
      ·rw[ak]at hlj
       by_cases hFj:aO.h L=aO.h j
       ·rw[if_pos hFj]at hlj;cases hlj
       ·rw[if_neg hFj]at hlj
        exact hd'.apart (fun e=>hFj (by rw[e])) hL' hlj (.inl rfl) ((howns c).1 hc) ht
     ·simp only[F.holds,BE.den,bv,IE.den,s6,hm];simp
     ·rw[s4];rfl
   ·cases h
  ·cases h
 ·cases h
theorem abn{v:Nat}{e ef:TypeId}{ks:List CK}{s:SV}{H lg:af}{eqs:List F}(h:gfL v e ef ks s H=some (lg,eqs))(hH:af.avo (v+1) ay H=true)(hks:ks.all (CK.avo (v+1) ay)=true):af.avo (v+1) ay lg=true∧F.avos (v+1) ay eqs=true:=by
 have hvo:off (v+1) ay v=true:=jR (Nat.lt_succ_self v)
 unfold gfL at h
 split at h
 ·simp only[Option.some.injEq,Prod.mk.injEq]at h;obtain⟨rfl,rfl⟩:=h
  exact⟨by simp only[af.avo,aO.avo,aY.avo,am.avo,IE.avo,LE.avo,hvo,hks,Bool.and_self],rfl⟩
 ·rename_i L
  split at h
  ·rename_i e' Fm m q hL
   split at h
   ·rename_i ef' ks' mF lf hF
    cases hg:(Nat.beq e e'&&(Nat.beq ef ef'&&dl.CK.eqs0 ks ks'))
    ·rw[hg]at h;cases h
    ·rw[hg]at h
     simp only[cond_true,Option.some.injEq,Prod.mk.injEq]at h;obtain⟨rfl,rfl⟩:=h
     have avL:=af.al hH hL
     have avF:=af.al hH hF
     have avL2:=avL.2
     have avF2:=avF.2
     simp only[aY.avo,am.avo,Bool.and_eq_true]at avL2 avF2
     have kL:off (v+1) ay L=true:=avL.1
     have kF:off (v+1) ay Fm=true:=avF.1
     refine⟨by simp only[af.avo,kL,kF,aO.avo,aY.avo,am.avo,IE.avo,LE.avo,hvo,hks,avL2.1,avL2.2.1,avF2.1,List.all_cons,List.all_nil,CK.avo,Bool.and_self],by simp only[F.avos,List.all_cons,List.all_nil,F.avo,BE.avo,IE.avo,LE.avo,hvo,avF2.2.1,Bool.and_self]⟩
   ·cases h
  ·cases h
 ·cases h
theorem abo{v:Nat}{e:TypeId}{s:SV}{H lg:af}{eqs:List F}(h:glL v e s H=some (lg,eqs))(hH:af.avo (v+1) ay H=true):af.avo (v+1) ay lg=true∧F.avos (v+1) ay eqs=true:=by
 have hvo:off (v+1) ay v=true:=jR (Nat.lt_succ_self v)
 have hvo1:off (v+1) ay (v-1)=true:=jR (by omega)
 unfold glL at h
 split at h
 ·rename_i ef ks mF le hF
  have avF2:=(af.al hH hF).2
  simp only[aY.avo,am.avo,Bool.and_eq_true]at avF2
  cases hv1:Nat.ble 1 v
  ·rw[hv1]at h;cases h
  rw[hv1]at h
  simp only[Bool.not_true,cond_false]at h
  split at h
  ·split at h
   ·simp only[Option.some.injEq,Prod.mk.injEq]at h;obtain⟨rfl,rfl⟩:=h
    exact⟨by simp only[af.avo,aO.avo,aY.avo,am.avo,IE.avo,LE.avo,hvo,hvo1,avF2.2.1,avF2.2.2,List.all_cons,List.all_nil,CK.avo,Bool.and_self],by simp only[F.avos,List.all_cons,List.all_nil,F.avo,BE.avo,IE.avo,hvo,Bool.and_self]⟩
   ·cases h
  ·rename_i L
   split at h
   ·rename_i e' Fm m q hL
    cases hg:(Nat.beq e e'&&(Nat.beq Fm (v-1)&&m.eq mF))
    ·rw[hg]at h;cases h
    ·rw[hg]at h
     simp only[cond_true,Option.some.injEq,Prod.mk.injEq]at h;obtain⟨rfl,rfl⟩:=h
     have avL:=af.al hH hL
     have avL2:=avL.2
     simp only[aY.avo,am.avo,Bool.and_eq_true]at avL2
     have kL:off (v+1) ay L=true:=avL.1
     exact⟨by simp only[af.avo,kL,aO.avo,aY.avo,am.avo,IE.avo,LE.avo,hvo,hvo1,avF2.2.1,avF2.2.2,List.all_cons,List.all_nil,CK.avo,Bool.and_self],by simp only[F.avos,List.all_cons,List.all_nil,F.avo,BE.avo,IE.avo,hvo,avL2.1,Bool.and_self]⟩
   ·cases h
  ·cases h
 ·cases h
theorem HD.replS{C:bp}{ρ:ap}{L:af}{w:World}(H:HD C ρ L w){id:Nat}{r r':am}(hl:ai (.h id) L=some (.row false r))(hown:∀c,r'.owns ρ id c↔r.owns ρ id c)(hh:r'.holds ρ id w):HD C ρ ((.h id,.row false r')::L) w:=
 H.step rfl rfl rfl (Nat.le_refl _) (fun _ _=>rfl) (fun _ _ _ _ _ _ _=>rfl) hh (fun h=>by cases h) (fun _ c hc=>H.ro id r hl c ((hown c).1 hc))
  (fun i p s hi hs hor c hc=>H.apart (fun e=>hi e.symm) hl hs (.inr (hor.resolve_left (by decide))) ((hown c).1 hc))
theorem abp{v:Nat}{e eY:TypeId}{ks:List IntKind}{s:SV}{H lg:af}{eqs:List F}(h:sfL v e eY ks s H=some (lg,eqs))(hH:af.avo v (v+1) H=true){C:bp}{ρ:ap}{w:World}(hd:HD C ρ H w):
 ∃ρ',b7 v (v+1) ρ ρ'∧HD C ρ' (lg++H) w∧ar ρ' eqs:=by
 unfold sfL at h
 split at h
 ·simp only[Option.some.injEq,Prod.mk.injEq]at h;obtain⟨rfl,rfl⟩:=h
  have hag:=qh ρ v (fun _=> .slice none 0 0)
  have hno:∀b,¬(am.sls eY ks (.lit 0) (.var v)).owns (kY ρ v (fun _=> .slice none 0 0)) v b:=by
   intro b hb
   simp only[am.owns,IE.den]at hb
   obtain⟨i,hi,_⟩:=hb
   simp at hi
  refine⟨_,hag,(hd.agr hag hH).step rfl rfl rfl (Nat.le_refl _) (fun _ _=>rfl) (fun _ _ _ _ _ _ _=>rfl) ?_ (fun _ b hb=>absurd hb (hno b)) (fun _ b hb=>absurd hb (hno b)) (fun _ _ _ _ _ _ b hb=>absurd hb (hno b)),aj _⟩
  simp only[am.holds,IE.den]
  exact fun i hi=>by simp at hi
 ·rename_i L
  split at h
  ·rename_i e' S m q hL
   split at h
   ·rename_i eY' ks' mS leS hS
    cases hg:(Nat.beq e e'&&(Nat.beq eY eY'&&wS ks ks'))
    ·rw[hg]at h;cases h
    ·rw[hg]at h
     simp only[cond_true,Option.some.injEq,Prod.mk.injEq]at h;obtain⟨rfl,rfl⟩:=h
     simp only[Bool.and_eq_true]at hg
     have:=Nat.eq_of_beq_eq_true hg.1;subst this
     have:=Nat.eq_of_beq_eq_true hg.2.1;subst this
     have:=rU hg.2.2;subst this
     have avL:=af.al hH hL
     have avS:=af.al hH hS
     have avS2:=avS.2
     simp only[aY.avo,am.avo,Bool.and_eq_true]at avS2
     have hag:=(oa ρ v (leS.den ρ)).trans (qh (dM ρ v (leS.den ρ)) v (ρ.y S)) (Nat.le_refl _) (Nat.le_refl _)
     have s1:(kY (dM ρ v (leS.den ρ)) v (ρ.y S)).y v=ρ.y S:=by simp[kY]
     have s2:(kY (dM ρ v (leS.den ρ)) v (ρ.y S)).l v=leS.den ρ:=by simp[kY,dM]
     generalize hρ:kY (dM ρ v (leS.den ρ)) v (ρ.y S)=ρ' at hag s1 s2
     have hd':=hd.agr hag hH
     have eS:ρ'.y S=ρ.y S:=hag.y S (aF avS.1)
     have em:mS.den ρ'=mS.den ρ:=IE.ag hag mS avS2.1
     have el:leS.den ρ'=leS.den ρ:=LE.ag hag leS avS2.2
     have hvL:v≠L:=fun e=>by have:=aF avL.1;omega
     have howns:∀c,(am.sls eY ks mS (.var v)).owns ρ' v c↔(am.sls eY ks mS leS).owns ρ' S c:=by
      intro c;simp only[am.owns,s1,eS]
     have h1:HD C ρ' ((.h v,.row false (.sls eY ks mS (.var v)))::H) w:=by
      refine hd'.step rfl rfl rfl (Nat.le_refl _) (fun _ _=>rfl) (fun _ _ _ _ _ _ _=>rfl) ?_ (fun h=>by cases h) (fun _ c hc=>hd'.ro S _ hS c ((howns c).1 hc)) (fun j p t hj hlj hor c hc ht=>?_)
      ·have hf:=hd'.rows S false _ hS
       simp only[am.holds,eS,el]at hf
       simp only[am.holds,s1,LE.den,s2]
       exact hf
      ·have hp:p=true:=hor.resolve_left (by decide)
       subst hp
       exact hd'.dis S j _ _ hS hlj c ((howns c).1 hc) ht
     have hLn:ai (.h L) ((.h v,.row false (.sls eY ks mS (.var v)))::H)=some (.row true (.lst e [.val S] m q)):=by
      rw[ak,if_neg (fun e=>hvL (aO.h.inj e))];exact hL
     refine⟨ρ',hag,?_,aa.2 ⟨by simp only[F.holds,List.map_cons,List.map_nil,bF,uG,LE.den,s2,el],aj _⟩⟩
     show HD C ρ' ((.h L,.row true (.lst e [.val v] m q))::((.h v,.row false (.sls eY ks mS (.var v)))::H)) w
     refine h1.repl hLn (fun c=>Iff.rfl) ?_
     have hl:=(bz ρ' L w e [.val S] m q).1 (h1.rows L true _ hLn)
     rw[bz]
     refine fS.mono hl fun i hi j x hx=>?_
     unfold n8 at hx⊢
     cases j with
     |zero=>
      simp only[List.getElem?_cons_zero,Option.map_some,CK.v]at hx⊢
      rw[←hx,s1,eS]
     |succ j=>simp at hx
   ·cases h
  ·cases h
 ·cases h
theorem abq{v:Nat}{e:TypeId}{s:SV}{H lg:af}{eqs:List F}(h:sgL v e s H=some (lg,eqs))(hH:af.avo v (v+1) H=true){C:bp}{ρ:ap}{w:World}(hd:HD C ρ H w):
 ∃ρ',b7 v (v+1) ρ ρ'∧HD C ρ' (lg++H) w∧ar ρ' eqs∧ρ'.x v=s.den ρ:=by
 unfold sgL at h
 split at h
 ·rename_i eY ks mS leS hF
  cases hv1:Nat.ble 1 v
  ·rw[hv1]at h;cases h
  rw[hv1]at h
  simp only[Bool.not_true,cond_false]at h
  have hv1:=Nat.le_of_ble_eq_true hv1
  have avF:=af.al hH hF
  have avF2:=avF.2
  simp only[aY.avo,am.avo,Bool.and_eq_true]at avF2
  have relay:∀{ρ':ap} {M:af},HD C ρ' M w→ai (.h (v-1)) M=some (.row false (.sls eY ks mS leS))→ρ'.i v=mS.den ρ'→HD C ρ' ((.h (v-1),.row false (.sls eY ks (.var v) leS))::M) w:=by
   intro ρ' M hm hl he
   refine hm.replS hl (fun c=>?_) ?_
   ·simp only[am.owns,IE.den,he]
   ·have:=hm.rows _ false _ hl
    simp only[am.holds]at this
    simp only[am.holds,IE.den,he]
    exact this
  split at h
  ·split at h
   ·simp only[Option.some.injEq,Prod.mk.injEq]at h;obtain⟨rfl,rfl⟩:=h
    have hag:=gh ρ v false 0 0 (.slice none 0 0) (fun _ _=>0) 0
    obtain⟨s1,s2,s3,s4,s5,s6⟩:=lV ρ v false 0 0 (.slice none 0 0) (fun _ _=>0) 0
    have hno:∀b,¬(am.lst e [.val (v-1)] (.var v) (.var v)).owns (gU ρ v false 0 0 (.slice none 0 0) (fun _ _=>0) 0) v b:=by
     intro b hb;simp only[am.owns,s1]at hb;cases hb.1
    have h1:=relay (hd.agr hag hH) hF (by rw[s6];rfl)
    refine⟨_,hag,h1.step rfl rfl rfl (Nat.le_refl _) (fun _ _=>rfl) (fun _ _ _ _ _ _ _=>rfl) ?_ (fun _ b hb=>absurd hb (hno b)) (fun _ b hb=>absurd hb (hno b)) (fun _ _ _ _ _ _ b hb=>absurd hb (hno b)),aa.2 ⟨?_,aj _⟩,?_⟩
    ·simp only[am.holds,s1,s4,IE.den,s6]
     exact⟨fun _=>⟨rfl,.inl trivial⟩,fun h=>by cases h⟩
    ·simp only[F.holds,BE.den,bv,IE.den,s6];rfl
    ·rw[s4];rfl
   ·cases h
  ·rename_i L
   split at h
   ·rename_i e' S m q hL
    cases hg:(Nat.beq e e'&&(Nat.beq S (v-1)&&m.eq mS))
    ·rw[hg]at h;cases h
    ·rw[hg]at h
     simp only[cond_true,Option.some.injEq,Prod.mk.injEq]at h;obtain⟨rfl,rfl⟩:=h
     simp only[Bool.and_eq_true]at hg
     have:=Nat.eq_of_beq_eq_true hg.1;subst this
     have:=Nat.eq_of_beq_eq_true hg.2.1;subst this
     have:=IE.b8 _ _ hg.2.2;subst this
     have avL:=af.al hH hL
     have avL2:=avL.2
     simp only[aY.avo,am.avo,Bool.and_eq_true,List.all_eq_true]at avL2
     have hLF:L≠v-1:=fun e=>by rw[e,hF]at hL;cases hL
     have hag:=gh ρ v (ρ.b L) (ρ.k L) (ρ.f L 0) (ρ.x L) (fun _ _=>0) (m.den ρ)
     obtain⟨s1,s2,s3,s4,s5,s6⟩:=lV ρ v (ρ.b L) (ρ.k L) (ρ.f L 0) (ρ.x L) (fun _ _=>0) (m.den ρ)
     generalize hρ:gU ρ v (ρ.b L) (ρ.k L) (ρ.f L 0) (ρ.x L) (fun _ _=>0) (m.den ρ)=ρ' at hag s1 s2 s3 s4 s5 s6
     have hd0:=hd.agr hag hH
     have hm:m.den ρ'=m.den ρ:=IE.ag hag m avL2.1
     have hd':=relay hd0 hF (by rw[s6,hm])
     have hL':ai (.h L) ((.h (v-1),.row false (.sls eY ks (.var v) leS))::H)=some (.row true (.lst e [.val (v-1)] m q)):=by
      rw[ak,if_neg (fun e=>hLF (aO.h.inj e).symm)];exact hL
     have eb:ρ'.b L=ρ.b L:=hag.b L (aF avL.1)
     have ek:ρ'.k L=ρ.k L:=hag.k L (aF avL.1)
     have ex:ρ'.x L=ρ.x L:=hag.x L (aF avL.1)
     have eff:ρ'.f L=ρ.f L:=hag.f L (aF avL.1)
     have howns:∀c,(am.lst e [.val (v-1)] (.var v) (.var v)).owns ρ' v c↔(am.lst e [.val (v-1)] m q).owns ρ' L c:=by
      intro c;simp only[am.owns,s1,s2,eb,ek]
     have hsub:HD C ρ' ((.h L,.gone)::(.h (v-1),.row false (.sls eY ks (.var v) leS))::H) w:=hd'.sub fun j o r hj=>by
      rw[ak]at hj
      by_cases hFj:aO.h L=aO.h j
      ·rw[if_pos hFj]at hj;cases hj
      ·rw[if_neg hFj]at hj;exact hj
     refine⟨ρ',hag,?_,aa.2 ⟨?_,aj _⟩,?_⟩
     ·show HD C ρ' ((.h v,.row true (.lst e [.val (v-1)] (.var v) (.var v)))::(.h L,.gone)::(.h (v-1),.row false (.sls eY ks (.var v) leS))::H) w
      refine hsub.step rfl rfl rfl (Nat.le_refl _) (fun _ _=>rfl) (fun _ _ _ _ _ _ _=>rfl) ?_ (fun _ c hc=>hd'.own L _ hL' c ((howns c).1 hc)) (fun h=>by cases h) (fun j p t hj hlj _ c hc ht=>?_)
      ·have hl:=(bz ρ' L w e [.val (v-1)] m q).1 (hd'.rows L true _ hL')
       rw[bz,s1,s2,s3,s4]
       rw[eb,ek,ex,eff,hm]at hl
       simp only[IE.den,s6]
       refine fS.mono hl fun i hi j x hx=>?_
       unfold n8 at hx⊢
       cases j with
       |zero=>
        simp only[List.getElem?_cons_zero,Option.map_some,CK.v]at hx⊢
        exact hx
       |succ j=>simp at hx
      ·rw[ak]at hlj
       by_cases hFj:aO.h L=aO.h j
       ·rw[if_pos hFj]at hlj;cases hlj
       ·rw[if_neg hFj]at hlj
        exact hd'.apart (fun e=>hFj (by rw[e])) hL' hlj (.inl rfl) ((howns c).1 hc) ht
     ·simp only[F.holds,BE.den,bv,IE.den,s6,hm];simp
     ·rw[s4];rfl
   ·cases h
  ·cases h
 ·cases h
theorem abr{v:Nat}{e eY:TypeId}{ks:List IntKind}{s:SV}{H lg:af}{eqs:List F}(h:sfL v e eY ks s H=some (lg,eqs))(hH:af.avo (v+1) ay H=true):af.avo (v+1) ay lg=true∧F.avos (v+1) ay eqs=true:=by
 have hvo:off (v+1) ay v=true:=jR (Nat.lt_succ_self v)
 unfold sfL at h
 split at h
 ·simp only[Option.some.injEq,Prod.mk.injEq]at h;obtain⟨rfl,rfl⟩:=h
  exact⟨by simp only[af.avo,aO.avo,aY.avo,am.avo,IE.avo,LE.avo,hvo,Bool.and_self],rfl⟩
 ·rename_i L
  split at h
  ·rename_i e' S m q hL
   split at h
   ·rename_i eY' ks' mS leS hS
    cases hg:(Nat.beq e e'&&(Nat.beq eY eY'&&wS ks ks'))
    ·rw[hg]at h;cases h
    ·rw[hg]at h
     simp only[cond_true,Option.some.injEq,Prod.mk.injEq]at h;obtain⟨rfl,rfl⟩:=h
     have avL:=af.al hH hL
     have avL2:=avL.2
     have avS2:=(af.al hH hS).2
     simp only[aY.avo,am.avo,Bool.and_eq_true]at avL2 avS2
     have kL:off (v+1) ay L=true:=avL.1
     exact⟨by simp only[af.avo,kL,aO.avo,aY.avo,am.avo,IE.avo,LE.avo,hvo,avL2.1,avL2.2.1,avS2.1,avS2.2,List.all_cons,List.all_nil,CK.avo,Bool.and_self],by simp only[F.avos,List.all_cons,List.all_nil,F.avo,LE.avo,hvo,avS2.2,Bool.and_self]⟩
   ·cases h
  ·cases h
 ·cases h
theorem abt{v:Nat}{e:TypeId}{s:SV}{H lg:af}{eqs:List F}(h:sgL v e s H=some (lg,eqs))(hH:af.avo (v+1) ay H=true):af.avo (v+1) ay lg=true∧F.avos (v+1) ay eqs=true:=by
 have hvo:off (v+1) ay v=true:=jR (Nat.lt_succ_self v)
 have hvo1:off (v+1) ay (v-1)=true:=jR (by omega)
 unfold sgL at h
 split at h
 ·rename_i eY ks mS leS hF
  have avF2:=(af.al hH hF).2
  simp only[aY.avo,am.avo,Bool.and_eq_true]at avF2
  cases hv1:Nat.ble 1 v
  ·rw[hv1]at h;cases h
  rw[hv1]at h
  simp only[Bool.not_true,cond_false]at h
  split at h
  ·split at h
   ·simp only[Option.some.injEq,Prod.mk.injEq]at h;obtain⟨rfl,rfl⟩:=h
    exact⟨by simp only[af.avo,aO.avo,aY.avo,am.avo,IE.avo,LE.avo,hvo,hvo1,avF2.2,List.all_cons,List.all_nil,CK.avo,Bool.and_self],by simp only[F.avos,List.all_cons,List.all_nil,F.avo,BE.avo,IE.avo,hvo,Bool.and_self]⟩
   ·cases h
  ·rename_i L
   split at h
   ·rename_i e' S m q hL
    cases hg:(Nat.beq e e'&&(Nat.beq S (v-1)&&m.eq mS))
    ·rw[hg]at h;cases h
    ·rw[hg]at h
     simp only[cond_true,Option.some.injEq,Prod.mk.injEq]at h;obtain⟨rfl,rfl⟩:=h
     have avL:=af.al hH hL
     have avL2:=avL.2
     simp only[aY.avo,am.avo,Bool.and_eq_true]at avL2
     have kL:off (v+1) ay L=true:=avL.1
     exact⟨by simp only[af.avo,kL,aO.avo,aY.avo,am.avo,IE.avo,LE.avo,hvo,hvo1,avF2.2,List.all_cons,List.all_nil,CK.avo,Bool.and_self],by simp only[F.avos,List.all_cons,List.all_nil,F.avo,BE.avo,IE.avo,hvo,avL2.1,Bool.and_self]⟩
   ·cases h
  ·cases h
 ·cases h
theorem a6p{it:Item}{v:Nat}{b b':Br}{eqs:List F}(h:eN it v b=some (b',eqs)){base:af}(hws:b.ws base v)(hv:v+1≤ay){C:bp}{nt:Nat}{ρ:ap}{a:Act}{w:World}(hb:uj C nt ρ b a w):
 ∃ρ',b7 v (v+1) ρ ρ'∧uj C nt ρ' b' a w∧ar ρ' eqs:=by
 cases it with
 |ri t=>
  simp only[eN]at h
  split at h
  ·rename_i k e hl
   simp only[Option.some.injEq,Prod.mk.injEq]at h;obtain⟨rfl,rfl⟩:=h
   have hea:=(af.al hws.2.2.1 hl).2
   simp only[aY.avo,SV.avo,BE.avo,Bool.true_and]at hea
   have hag:=dT ρ v (e.den ρ)
   have hb':=hb.agr hws hag hv
   have he:e.den (eG ρ v (e.den ρ))=e.den ρ:=IE.ag hag e (IE.ad (Nat.le_refl _) hv _ hea)
   refine⟨_,hag,⟨hb'.g,hb'.pc,hb'.hd,hb'.rd.defers,hb'.rd.size,fun t' c s hl'=>?_⟩,aa.2 ⟨?_,aj _⟩⟩
   ·rw[ak]at hl'
    by_cases ht:aO.r t=aO.r t'
    ·obtain rfl:=aO.r.inj ht
     rw[if_pos rfl]at hl'
     obtain⟨rfl,rfl⟩:=aY.reg.inj (Option.some.inj hl')
     rw[hb'.rd.regs t _ _ hl]
     simp only[SV.den,IE.den,he,BE.den]
     simp[eG]
    ·rw[if_neg ht]at hl';exact hb'.rd.regs t' c s hl'
   ·simp only[F.holds,BE.den,bv,IE.den,he];simp[eG]
  ·cases h
 |rb t=>
  simp only[eN]at h
  split at h
  ·rename_i e hl
   simp only[Option.some.injEq,Prod.mk.injEq]at h;obtain⟨rfl,rfl⟩:=h
   have hea:=(af.al hws.2.2.1 hl).2
   simp only[aY.avo,SV.avo,BE.avo,Bool.true_and]at hea
   have hag:=Cw ρ v (e.den ρ)
   have hb':=hb.agr hws hag hv
   have he:e.den (Cv ρ v (e.den ρ))=e.den ρ:=BE.ag hag e (BE.ad (Nat.le_refl _) hv _ hea)
   refine⟨_,hag,⟨hb'.g,hb'.pc,hb'.hd,hb'.rd.defers,hb'.rd.size,fun t' c s hl'=>?_⟩,aa.2 ⟨?_,aj _⟩⟩
   ·rw[ak]at hl'
    by_cases ht:aO.r t=aO.r t'
    ·obtain rfl:=aO.r.inj ht
     rw[if_pos rfl]at hl'
     obtain⟨rfl,rfl⟩:=aY.reg.inj (Option.some.inj hl')
     rw[hb'.rd.regs t _ _ hl]
     simp only[SV.den,he,BE.den]
     simp[Cv]
    ·rw[if_neg ht]at hl';exact hb'.rd.regs t' c s hl'
   ·simp only[F.holds,BE.den,he];simp[Cv]
  ·cases h
 |ci id o=>
  simp only[eN]at h
  split at h
  ·rename_i el l hl
   split at h
   ·rename_i k e hlo
    simp only[Option.some.injEq,Prod.mk.injEq]at h;obtain⟨rfl,rfl⟩:=h
    have hla:=(af.al hws.2.2.2.1 hl).2
    simp only[aY.avo,am.avo]at hla
    have hea:=SV.gI hla hlo
    simp only[SV.avo]at hea
    have hag:=dT ρ v (e.den ρ)
    have hb':=hb.agr hws hag hv
    have he:e.den (eG ρ v (e.den ρ))=e.den ρ:=IE.ag hag e (IE.ad (Nat.le_refl _) hv _ hea)
    refine⟨_,hag,⟨hb'.g,hb'.pc,hb'.hd.repl hl (fun c=>Iff.rfl) ?_,hb'.rd⟩,aa.2 ⟨?_,aj _⟩⟩
    ·have:=hb'.hd.rows id true _ hl
     simp only[am.holds]at this⊢
     rw[eO hlo (by simp only[SV.den,IE.den,he];simp[eG])]
     exact this
    ·simp only[F.holds,BE.den,bv,IE.den,he];simp[eG]
   ·cases h
  ·cases h
 |cb id o=>
  simp only[eN]at h
  split at h
  ·rename_i el l hl
   split at h
   ·rename_i e hlo
    simp only[Option.some.injEq,Prod.mk.injEq]at h;obtain⟨rfl,rfl⟩:=h
    have hla:=(af.al hws.2.2.2.1 hl).2
    simp only[aY.avo,am.avo]at hla
    have hea:=SV.gI hla hlo
    simp only[SV.avo]at hea
    have hag:=Cw ρ v (e.den ρ)
    have hb':=hb.agr hws hag hv
    have he:e.den (Cv ρ v (e.den ρ))=e.den ρ:=BE.ag hag e (BE.ad (Nat.le_refl _) hv _ hea)
    refine⟨_,hag,⟨hb'.g,hb'.pc,hb'.hd.repl hl (fun c=>Iff.rfl) ?_,hb'.rd⟩,aa.2 ⟨?_,aj _⟩⟩
    ·have:=hb'.hd.rows id true _ hl
     simp only[am.holds]at this⊢
     rw[eO hlo (by simp only[SV.den,BE.den,he];simp[Cv])]
     exact this
    ·simp only[F.holds,BE.den,he];simp[Cv]
   ·cases h
  ·cases h
 |mw id=>
  simp only[eN]at h
  split at h
  ·rename_i l hl
   simp only[Option.some.injEq,Prod.mk.injEq]at h;obtain⟨rfl,rfl⟩:=h
   exact⟨ρ,b7.refl _ _ _,⟨hb.g,hb.pc,hb.hd.repl hl (fun c=>Iff.rfl) (WJ (hb.hd.rows id true _ hl)),hb.rd⟩,aj _⟩
  ·rename_i hl
   simp only[Option.some.injEq,Prod.mk.injEq]at h;obtain⟨rfl,rfl⟩:=h
   exact⟨ρ,b7.refl _ _ _,⟨hb.g,hb.pc,hb.hd.repl hl (fun c=>Iff.rfl) (hb.hd.rows id true _ hl),hb.rd⟩,aj _⟩
  ·cases h
 |lc id=>
  simp only[eN]at h
  split at h
  ·rename_i el ks n le hl
   cases he:(!(Nat.beq el 0))
   ·rw[he]at h;cases h
   rw[he]at h
   simp only[cond_true,Option.some.injEq,Prod.mk.injEq]at h;obtain⟨rfl,rfl⟩:=h
   have hla:=(af.al hws.2.2.2.1 hl).2
   simp only[aY.avo,am.avo,Bool.and_eq_true]at hla
   have hag:=oa ρ v (le.den ρ)
   have hb':=hb.agr hws hag hv
   have he:le.den (dM ρ v (le.den ρ))=le.den ρ:=LE.ag hag le (LE.ad (Nat.le_refl _) hv _ hla.2.1)
   have hvv:(LE.var v).den (dM ρ v (le.den ρ))=le.den ρ:=by simp[LE.den,dM]
   refine⟨_,hag,⟨hb'.g,hb'.pc,hb'.hd.repl hl (fun c=>Iff.rfl) ?_,hb'.rd⟩,aa.2 ⟨?_,aj _⟩⟩
   ·have:=hb'.hd.rows id true _ hl
    simp only[am.holds,he]at this
    simp only[am.holds,hvv]
    exact this
   ·simp only[F.holds,List.map_cons,List.map_nil,bF,uG,hvv,he]
  ·cases h
 |rl t own e ks=>
  simp only[eN]at h
  cases hpk:bm ks
  ·rw[hpk]at h;cases h
  rw[hpk]at h
  simp only[Bool.not_true,cond_false]at h
  split at h
  ·rename_i s hl
   split at h
   ·rename_i lg eqs0 hL
    simp only[Option.some.injEq,Prod.mk.injEq]at h;obtain⟨rfl,rfl⟩:=h
    obtain⟨ρ',hag,hd',heq,hx⟩:=N6 hL (af.fU hws.2.2.2.1 hv) hb.hd
    have hb':=hb.agr hws hag hv
    refine⟨ρ',hag,⟨hb'.g,hb'.pc,hd',hb'.rd.defers,hb'.rd.size,fun t' c s' hl'=>?_⟩,heq⟩
    rw[ak]at hl'
    by_cases ht:aO.r t=aO.r t'
    ·obtain rfl:=aO.r.inj ht
     rw[if_pos rfl]at hl'
     obtain⟨rfl,rfl⟩:=aY.reg.inj (Option.some.inj hl')
     rw[hb.rd.regs t _ _ hl]
     simp only[BE.den,if_true,SV.den,hx]
    ·rw[if_neg ht]at hl';exact hb'.rd.regs t' c s' hl'
   ·cases h
  ·cases h
 |cl id o own e ks=>
  simp only[eN]at h
  cases hpk:bm ks
  ·rw[hpk]at h;cases h
  rw[hpk]at h
  simp only[Bool.not_true,cond_false]at h
  split at h
  ·rename_i el l hl
   split at h
   ·rename_i s hlo
    split at h
    ·rename_i lg eqs0 hL
     split at h
     ·rename_i el' l' hl2
      cases he:(Nat.beq el el'&&SV.eqrs ⟨0,0,0⟩ l l')
      ·rw[he]at h;cases h
      rw[he]at h
      simp only[cond_true,Option.some.injEq,Prod.mk.injEq]at h;obtain⟨rfl,rfl⟩:=h
      simp only[Bool.and_eq_true]at he
      have hel:=Nat.eq_of_beq_eq_true he.1
      subst hel
      obtain⟨ρ',hag,hd',heq,hx⟩:=N6 hL (af.fU hws.2.2.2.1 hv) hb.hd
      have hb':=hb.agr hws hag hv
      have hla:=(af.al hws.2.2.2.1 hl).2
      simp only[aY.avo,am.avo]at hla
      have hsa:=SV.gI hla hlo
      refine⟨ρ',hag,⟨hb'.g,hb'.pc,?_,hb'.rd⟩,heq⟩
      show HD C ρ' ((.h id,.row true (.cells el (l.set o (.lst v))))::(lg++b.H)) w
      refine hd'.repl hl2 (fun c=>Iff.rfl) ?_
      have h1:=hd'.rows id true _ hl2
      have h2:SV.dens ρ' l'=SV.dens ρ' l:=by
       have:=SV.fB (r:=⟨0,0,0⟩) (ρ:=ρ') l l' he.2
       have hr0:(⟨0,0,0⟩:c8).env ρ'=ρ':=by
        have:∀u,(⟨0,0,0⟩:c8).back u=u:=fun u=>by unfold c8.back;rw[if_neg (by simp)]
        unfold c8.env;simp only[this]
       rw[hr0]at this;exact this
      simp only[am.holds,←SV.b9,h2]at h1⊢
      rw[SV.b9]at h1⊢
      rw[eO hlo (by simp only[SV.den,hx];exact(SV.ag hag s (SV.ad (Nat.le_refl _) hv _ hsa)).symm)]
      exact h1
     ·cases h
    ·cases h
   ·cases h
  ·cases h
 |gf id o e ef ks=>
  simp only[eN]at h
  cases hpk:bm ks
  ·rw[hpk]at h;cases h
  rw[hpk]at h
  simp only[Bool.not_true,cond_false]at h
  split at h
  ·rename_i el l hl
   split at h
   ·rename_i s hlo
    split at h
    ·rename_i lg eqs0 hL
     simp only[Option.some.injEq,Prod.mk.injEq]at h;obtain⟨rfl,rfl⟩:=h
     obtain⟨ρ',hag,hd',heq⟩:=abl hL hpk (af.fU hws.2.2.2.1 hv) hb.hd
     have hb':=hb.agr hws hag hv
     exact⟨ρ',hag,⟨hb'.g,hb'.pc,hd',hb'.rd⟩,heq⟩
    ·cases h
   ·cases h
  ·cases h
 |gl id o e=>
  simp only[eN]at h
  split at h
  ·rename_i el l hl
   split at h
   ·rename_i s hlo
    split at h
    ·rename_i lg eqs0 hL
     split at h
     ·rename_i el' l' hl2
      cases he:(Nat.beq el el'&&SV.eqrs ⟨0,0,0⟩ l l')
      ·rw[he]at h;cases h
      rw[he]at h
      simp only[cond_true,Option.some.injEq,Prod.mk.injEq]at h;obtain⟨rfl,rfl⟩:=h
      simp only[Bool.and_eq_true]at he
      have hel:=Nat.eq_of_beq_eq_true he.1
      subst hel
      obtain⟨ρ',hag,hd',heq,hx⟩:=abm hL (af.fU hws.2.2.2.1 hv) hb.hd
      have hb':=hb.agr hws hag hv
      have hla:=(af.al hws.2.2.2.1 hl).2
      simp only[aY.avo,am.avo]at hla
      have hsa:=SV.gI hla hlo
      refine⟨ρ',hag,⟨hb'.g,hb'.pc,?_,hb'.rd⟩,heq⟩
      show HD C ρ' ((.h id,.row true (.cells el (l.set o (.lst v))))::(lg++b.H)) w
      refine hd'.repl hl2 (fun c=>Iff.rfl) ?_
      have h1:=hd'.rows id true _ hl2
      have h2:SV.dens ρ' l'=SV.dens ρ' l:=by
       have:=SV.fB (r:=⟨0,0,0⟩) (ρ:=ρ') l l' he.2
       have hr0:(⟨0,0,0⟩:c8).env ρ'=ρ':=by
        have:∀u,(⟨0,0,0⟩:c8).back u=u:=fun u=>by unfold c8.back;rw[if_neg (by simp)]
        unfold c8.env;simp only[this]
       rw[hr0]at this;exact this
      simp only[am.holds,←SV.b9,h2]at h1⊢
      rw[SV.b9]at h1⊢
      rw[eO hlo (by simp only[SV.den,hx];exact(SV.ag hag s (SV.ad (Nat.le_refl _) hv _ hsa)).symm)]
      exact h1
     ·cases h
    ·cases h
   ·cases h
  ·cases h
 |sf t e eY ks=>
  simp only[eN]at h
  split at h
  ·rename_i s hl
   split at h
   ·rename_i lg eqs0 hL
    simp only[Option.some.injEq,Prod.mk.injEq]at h;obtain⟨rfl,rfl⟩:=h
    obtain⟨ρ',hag,hd',heq⟩:=abp hL (af.fU hws.2.2.2.1 hv) hb.hd
    have hb':=hb.agr hws hag hv
    exact⟨ρ',hag,⟨hb'.g,hb'.pc,hd',hb'.rd⟩,heq⟩
   ·cases h
  ·cases h
 |sg t e=>
  simp only[eN]at h
  split at h
  ·rename_i s hl
   split at h
   ·rename_i lg eqs0 hL
    simp only[Option.some.injEq,Prod.mk.injEq]at h;obtain⟨rfl,rfl⟩:=h
    obtain⟨ρ',hag,hd',heq,hx⟩:=abq hL (af.fU hws.2.2.2.1 hv) hb.hd
    have hb':=hb.agr hws hag hv
    refine⟨ρ',hag,⟨hb'.g,hb'.pc,hd',hb'.rd.defers,hb'.rd.size,fun t' c s' hl'=>?_⟩,heq⟩
    rw[ak]at hl'
    by_cases ht:aO.r t=aO.r t'
    ·obtain rfl:=aO.r.inj ht
     rw[if_pos rfl]at hl'
     obtain⟨rfl,rfl⟩:=aY.reg.inj (Option.some.inj hl')
     rw[hb.rd.regs t _ _ hl]
     simp only[BE.den,if_true,SV.den,hx]
    ·rw[if_neg ht]at hl';exact hb'.rd.regs t' c s' hl'
   ·cases h
  ·cases h
 |fm id=>
  simp only[eN]at h
  split at h
  ·rename_i el ks n le hl
   simp only[Option.some.injEq,Prod.mk.injEq]at h;obtain⟨rfl,rfl⟩:=h
   have hla:=(af.al hws.2.2.2.1 hl).2
   simp only[aY.avo,am.avo,Bool.and_eq_true]at hla
   have hag:=oa ρ v (le.den ρ)
   have hb':=hb.agr hws hag hv
   have he:le.den (dM ρ v (le.den ρ))=le.den ρ:=LE.ag hag le (LE.ad (Nat.le_refl _) hv _ hla.2.1)
   have hvv:(LE.var v).den (dM ρ v (le.den ρ))=le.den ρ:=by simp[LE.den,dM]
   refine⟨_,hag,⟨hb'.g,hb'.pc,hb'.hd.repl hl (fun c=>Iff.rfl) ?_,hb'.rd⟩,aa.2 ⟨?_,aj _⟩⟩
   ·have:=hb'.hd.rows id true _ hl
    simp only[am.holds,he]at this
    simp only[am.holds,hvv]
    exact this
   ·simp only[F.holds,List.map_cons,List.map_nil,bF,uG,hvv,he]
  ·cases h
theorem a6q{it:Item}{v:Nat}{b b':Br}{eqs:List F}(h:eN it v b=some (b',eqs)){base:af}(hws:b.ws base v):b'.ws base (v+1)∧F.avos (v+1) ay eqs=true:=by
 have hw:=Br.bh (Nat.le_succ v) hws
 have hvo:off (v+1) ay v=true:=jR (Nat.lt_succ_self v)
 cases it with
 |ri t=>
  simp only[eN]at h
  split at h
  ·rename_i k e hl
   simp only[Option.some.injEq,Prod.mk.injEq]at h;obtain⟨rfl,rfl⟩:=h
   have hea:=(af.al hw.2.2.1 hl).2
   simp only[aY.avo,SV.avo,BE.avo,Bool.true_and]at hea
   refine⟨⟨hw.1,hw.2.1,?_,hw.2.2.2.1,hw.2.2.2.2⟩,by simp only[F.avos,List.all_cons,List.all_nil,F.avo,BE.avo,IE.avo,hvo,hea,Bool.and_self]⟩
   simp only[af.avo,aO.avo,aY.avo,SV.avo,BE.avo,IE.avo,hvo,hw.2.2.1,Bool.and_self]
  ·cases h
 |rb t=>
  simp only[eN]at h
  split at h
  ·rename_i e hl
   simp only[Option.some.injEq,Prod.mk.injEq]at h;obtain⟨rfl,rfl⟩:=h
   have hea:=(af.al hw.2.2.1 hl).2
   simp only[aY.avo,SV.avo,BE.avo,Bool.true_and]at hea
   refine⟨⟨hw.1,hw.2.1,?_,hw.2.2.2.1,hw.2.2.2.2⟩,by simp only[F.avos,List.all_cons,List.all_nil,F.avo,BE.avo,hvo,hea,Bool.and_self]⟩
   simp only[af.avo,aO.avo,aY.avo,SV.avo,BE.avo,hvo,hw.2.2.1,Bool.and_self]
  ·cases h
 |ci id o=>
  simp only[eN]at h
  split at h
  ·rename_i el l hl
   split at h
   ·rename_i k e hlo
    simp only[Option.some.injEq,Prod.mk.injEq]at h;obtain⟨rfl,rfl⟩:=h
    have hk:=af.al hw.2.2.2.1 hl
    have hla:=hk.2
    simp only[aY.avo,am.avo]at hla
    have hea:=SV.gI hla hlo
    simp only[SV.avo]at hea
    have hent:(aO.h id).avo (v+1) ay=true∧SV.avos (v+1) ay (l.set o (.int k (.var v)))=true:=⟨hk.1,SV.ld (by simp only[SV.avo,IE.avo,hvo]) hla⟩
    refine⟨⟨hw.1,hw.2.1,hw.2.2.1,?_,?_⟩,by simp only[F.avos,List.all_cons,List.all_nil,F.avo,BE.avo,IE.avo,hvo,hea,Bool.and_self]⟩
    ·simp only[af.avo,aY.avo,am.avo,hent.1,hent.2,hw.2.2.2.1,Bool.and_self]
    ·simp only[List.cons_append,hw.2.2.2.2]
   ·cases h
  ·cases h
 |cb id o=>
  simp only[eN]at h
  split at h
  ·rename_i el l hl
   split at h
   ·rename_i e hlo
    simp only[Option.some.injEq,Prod.mk.injEq]at h;obtain⟨rfl,rfl⟩:=h
    have hk:=af.al hw.2.2.2.1 hl
    have hla:=hk.2
    simp only[aY.avo,am.avo]at hla
    have hea:=SV.gI hla hlo
    simp only[SV.avo]at hea
    have hent:(aO.h id).avo (v+1) ay=true∧SV.avos (v+1) ay (l.set o (.b (.var v)))=true:=⟨hk.1,SV.ld (by simp only[SV.avo,BE.avo,hvo]) hla⟩
    refine⟨⟨hw.1,hw.2.1,hw.2.2.1,?_,?_⟩,by simp only[F.avos,List.all_cons,List.all_nil,F.avo,BE.avo,hvo,hea,Bool.and_self]⟩
    ·simp only[af.avo,aY.avo,am.avo,hent.1,hent.2,hw.2.2.2.1,Bool.and_self]
    ·simp only[List.cons_append,hw.2.2.2.2]
   ·cases h
  ·cases h
 |mw id=>
  simp only[eN]at h
  split at h<;>first
  |(cases h;done)
  |(rename_i hl
    simp only[Option.some.injEq,Prod.mk.injEq]at h;obtain⟨rfl,rfl⟩:=h
    have hk:=af.al hw.2.2.2.1 hl
    refine⟨⟨hw.1,hw.2.1,hw.2.2.1,?_,?_⟩,rfl⟩
    ·simp only[af.avo,aY.avo,am.avo,hk.1,hw.2.2.2.1,Bool.and_self]
    ·simp only[List.cons_append,hw.2.2.2.2])
 |lc id=>
  simp only[eN]at h
  split at h
  ·rename_i el ks n le hl
   cases he:(!(Nat.beq el 0))
   ·rw[he]at h;cases h
   rw[he]at h
   simp only[cond_true,Option.some.injEq,Prod.mk.injEq]at h;obtain⟨rfl,rfl⟩:=h
   have hk:=af.al hw.2.2.2.1 hl
   have hla:=hk.2
   simp only[aY.avo,am.avo,Bool.and_eq_true]at hla
   refine⟨⟨hw.1,hw.2.1,hw.2.2.1,?_,?_⟩,by simp only[F.avos,List.all_cons,List.all_nil,F.avo,LE.avo,hvo,hla.2.1,Bool.and_self]⟩
   ·simp only[af.avo,aY.avo,am.avo,LE.avo,hk.1,hla.1,hla.2.2,hvo,hw.2.2.2.1,Bool.and_self]
   ·simp only[List.cons_append,hw.2.2.2.2]
  ·cases h
 |rl t own e ks=>
  simp only[eN]at h
  cases hpk:bm ks
  ·rw[hpk]at h;cases h
  rw[hpk]at h
  simp only[Bool.not_true,cond_false]at h
  split at h
  ·rename_i s hl
   split at h
   ·rename_i lg eqs0 hL
    simp only[Option.some.injEq,Prod.mk.injEq]at h;obtain⟨rfl,rfl⟩:=h
    obtain⟨l1,l2⟩:=N7 hL hw.2.2.2.1 (N8 hL hpk _ _)
    refine⟨⟨hw.1,hw.2.1,?_,af.cH l1 hw.2.2.2.1,?_⟩,l2⟩
    ·simp only[af.avo,aO.avo,aY.avo,BE.avo,SV.avo,hvo,hw.2.2.1,Bool.and_self]
    ·show lg++b.H=(lg++b.pre)++base
     rw[hw.2.2.2.2,List.append_assoc]
   ·cases h
  ·cases h
 |cl id o own e ks=>
  simp only[eN]at h
  cases hpk:bm ks
  ·rw[hpk]at h;cases h
  rw[hpk]at h
  simp only[Bool.not_true,cond_false]at h
  split at h
  ·rename_i el l hl
   split at h
   ·rename_i s hlo
    split at h
    ·rename_i lg eqs0 hL
     split at h
     ·rename_i el' l' hl2
      cases he:(Nat.beq el el'&&SV.eqrs ⟨0,0,0⟩ l l')
      ·rw[he]at h;cases h
      rw[he]at h
      simp only[cond_true,Option.some.injEq,Prod.mk.injEq]at h;obtain⟨rfl,rfl⟩:=h
      obtain⟨l1,l2⟩:=N7 hL hw.2.2.2.1 (N8 hL hpk _ _)
      have hk:=af.al hw.2.2.2.1 hl
      have hla:=hk.2
      simp only[aY.avo,am.avo]at hla
      have h5:SV.avos (v+1) ay (l.set o (.lst v))=true:=SV.ld (by simp only[SV.avo,hvo]) hla
      refine⟨⟨hw.1,hw.2.1,hw.2.2.1,?_,?_⟩,l2⟩
      ·show af.avo (v+1) ay ((aO.h id,aY.row true (am.cells el (l.set o (.lst v))))::(lg++b.H))=true
       simp only[af.avo,aY.avo,am.avo,hk.1,h5,af.cH l1 hw.2.2.2.1,Bool.and_self]
      ·show(_::(lg++b.H))=(_::(lg++b.pre))++base
       rw[hw.2.2.2.2,List.cons_append,List.append_assoc]
     ·cases h
    ·cases h
   ·cases h
  ·cases h
 |gf id o e ef ks=>
  simp only[eN]at h
  cases hpk:bm ks
  ·rw[hpk]at h;cases h
  rw[hpk]at h
  simp only[Bool.not_true,cond_false]at h
  split at h
  ·rename_i el l hl
   split at h
   ·rename_i s hlo
    split at h
    ·rename_i lg eqs0 hL
     simp only[Option.some.injEq,Prod.mk.injEq]at h;obtain⟨rfl,rfl⟩:=h
     obtain⟨l1,l2⟩:=abn hL hw.2.2.2.1 (Xk hpk _ _)
     refine⟨⟨hw.1,hw.2.1,hw.2.2.1,af.cH l1 hw.2.2.2.1,?_⟩,l2⟩
     show lg++b.H=(lg++b.pre)++base
     rw[hw.2.2.2.2,List.append_assoc]
    ·cases h
   ·cases h
  ·cases h
 |gl id o e=>
  simp only[eN]at h
  split at h
  ·rename_i el l hl
   split at h
   ·rename_i s hlo
    split at h
    ·rename_i lg eqs0 hL
     split at h
     ·rename_i el' l' hl2
      cases he:(Nat.beq el el'&&SV.eqrs ⟨0,0,0⟩ l l')
      ·rw[he]at h;cases h
      rw[he]at h
      simp only[cond_true,Option.some.injEq,Prod.mk.injEq]at h;obtain⟨rfl,rfl⟩:=h
      obtain⟨l1,l2⟩:=abo hL hw.2.2.2.1
      have hk:=af.al hw.2.2.2.1 hl
      have hla:=hk.2
      simp only[aY.avo,am.avo]at hla
      have h5:SV.avos (v+1) ay (l.set o (.lst v))=true:=SV.ld (by simp only[SV.avo,hvo]) hla
      refine⟨⟨hw.1,hw.2.1,hw.2.2.1,?_,?_⟩,l2⟩
      ·show af.avo (v+1) ay ((aO.h id,aY.row true (am.cells el (l.set o (.lst v))))::(lg++b.H))=true
       simp only[af.avo,aY.avo,am.avo,hk.1,h5,af.cH l1 hw.2.2.2.1,Bool.and_self]
      ·show(_::(lg++b.H))=(_::(lg++b.pre))++base
       rw[hw.2.2.2.2,List.cons_append,List.append_assoc]
     ·cases h
    ·cases h
   ·cases h
  ·cases h
 |sf t e eY ks=>
  simp only[eN]at h
  split at h
  ·rename_i s hl
   split at h
   ·rename_i lg eqs0 hL
    simp only[Option.some.injEq,Prod.mk.injEq]at h;obtain⟨rfl,rfl⟩:=h
    obtain⟨l1,l2⟩:=abr hL hw.2.2.2.1
    refine⟨⟨hw.1,hw.2.1,hw.2.2.1,af.cH l1 hw.2.2.2.1,?_⟩,l2⟩
    show lg++b.H=(lg++b.pre)++base
    rw[hw.2.2.2.2,List.append_assoc]
   ·cases h
  ·cases h
 |sg t e=>
  simp only[eN]at h
  split at h
  ·rename_i s hl
   split at h
   ·rename_i lg eqs0 hL
    simp only[Option.some.injEq,Prod.mk.injEq]at h;obtain⟨rfl,rfl⟩:=h
    obtain⟨l1,l2⟩:=abt hL hw.2.2.2.1
    refine⟨⟨hw.1,hw.2.1,?_,af.cH l1 hw.2.2.2.1,?_⟩,l2⟩
    ·simp only[af.avo,aO.avo,aY.avo,BE.avo,SV.avo,hvo,hw.2.2.1,Bool.and_self]
    ·show lg++b.H=(lg++b.pre)++base
     rw[hw.2.2.2.2,List.append_assoc]
   ·cases h
  ·cases h
 |fm id=>
  simp only[eN]at h
  split at h
  ·rename_i el ks n le hl
   simp only[Option.some.injEq,Prod.mk.injEq]at h;obtain⟨rfl,rfl⟩:=h
   have hk:=af.al hw.2.2.2.1 hl
   have hla:=hk.2
   simp only[aY.avo,am.avo,Bool.and_eq_true]at hla
   refine⟨⟨hw.1,hw.2.1,hw.2.2.1,?_,?_⟩,by simp only[F.avos,List.all_cons,List.all_nil,F.avo,LE.avo,hvo,hla.2.1,Bool.and_self]⟩
   ·simp only[af.avo,aY.avo,am.avo,LE.avo,hk.1,hla.1,hla.2.2,hvo,hw.2.2.2.1,Bool.and_self]
   ·simp only[List.cons_append,hw.2.2.2.2]
  ·cases h
def CA:List Item→Nat→Br→Option (Br×List F)
 |[],_,b=>some (b,[])
 |it::r,v,b=>match eN it v b with
  |some (b1,e1)=>match CA r (v+1) b1 with
   |some (b2,e2)=>some (b2,e1++e2)
   |none=>none
  |none=>none
theorem oj:∀{its:List Item} {v:Nat} {b b':Br} {eqs:List F},CA its v b=some (b',eqs)→∀{base:af},b.ws base v→v+its.length≤ay→
 (b'.ws base (v+its.length)∧F.avos (v+its.length) ay eqs=true)∧∀{C:bp} {nt:Nat} {ρ:ap} {a:Act} {w:World},uj C nt ρ b a w→∃ρ',b7 v (v+its.length) ρ ρ'∧uj C nt ρ' b' a w∧ar ρ' eqs
 |[],v,b,b',eqs,h,base,hws,hv=>by
  simp only[CA,Option.some.injEq,Prod.mk.injEq]at h;obtain⟨rfl,rfl⟩:=h
  exact⟨⟨hws,rfl⟩,fun hb=>⟨_,b7.refl _ _ _,hb,aj _⟩⟩
 |it::r,v,b,b',eqs,h,base,hws,hv=>by
  simp only[CA]at h
  split at h
  ·rename_i b1 e1 h1
   split at h
   ·rename_i b2 e2 h2
    simp only[Option.some.injEq,Prod.mk.injEq]at h;obtain⟨rfl,rfl⟩:=h
    simp only[List.length_cons]at hv⊢
    have w1:=a6q h1 hws
    obtain⟨w2,ok2⟩:=oj h2 w1.1 (by omega)
    rw[show v+(r.length+1)=v+1+r.length by omega]
    refine⟨⟨w2.1,F.bt (F.aq (by omega) (Nat.le_refl _) w1.2) w2.2⟩,fun hb=>?_⟩
    obtain⟨ρ1,g1,s1,q1⟩:=a6p h1 hws (by omega) hb
    obtain⟨ρ2,g2,s2,q2⟩:=ok2 s1
    refine⟨ρ2,g1.trans g2 (by omega) (by omega),s2,aA.2 ⟨?_,q2⟩⟩
    exact(aZ g2 (F.aq (Nat.le_refl _) (by omega) w1.2)).2 q1
   ·cases h
  ·cases h
end
section
variable [cg] [Fm]
inductive pV where
 |be (f:Nat→BE)
 |rel (r:Nat) (is:Nat→List IE) (ls:Nat→List LE)
def pV.at(n:Nat):pV→F
 |.be f=> .be (f n)
 |.rel r is ls=> .rel r (is n) (ls n)
def N9(r:c8):List IE→List IE→Bool
 |[],[]=>true
 |a::l,b::m=>a.eqr r b&&N9 r l m
 |_,_=>false
def Na(r:c8):List LE→List LE→Bool
 |[],[]=>true
 |a::l,b::m=>a.eqr r b&&Na r l m
 |_,_=>false
theorem v6{r:c8}{ρ:ap}:∀{l m:List IE},N9 r l m=true→m.map (IE.den (r.env ρ))=l.map (IE.den ρ)
 |[],[],_=>rfl
 |[],_::_,h=>by cases h
 |_::_,[],h=>by cases h
 |a::l,b::m,h=>by
  simp only[N9,Bool.and_eq_true]at h
  simp only[List.map_cons,IE.aD _ _ h.1,v6 h.2]
theorem v7{r:c8}{ρ:ap}:∀{l m:List LE},Na r l m=true→m.map (LE.den (r.env ρ))=l.map (LE.den ρ)
 |[],[],_=>rfl
 |[],_::_,h=>by cases h
 |_::_,[],h=>by cases h
 |a::l,b::m,h=>by
  simp only[Na,Bool.and_eq_true]at h
  simp only[List.map_cons,LE.aD _ _ h.1,v7 h.2]
def pV.eqr(r:c8):pV→Bool
 |.be f=>(f r.m).eqr r (f r.n)
 |.rel _ is ls=>N9 r (is r.m) (is r.n)&&Na r (ls r.m) (ls r.n)
theorem pV.gg{r:c8}{ρ:ap}{x:pV}(h:x.eqr r=true)(hh:(x.at r.m).holds ρ):(x.at r.n).holds (r.env ρ):=by
 cases x with
 |be f=>simp only[pV.eqr]at h;simp only[pV.at,F.holds,BE.aD _ _ h]at hh⊢;exact hh
 |rel q is ls=>
  simp only[pV.eqr,Bool.and_eq_true]at h
  simp only[pV.at,F.holds,v6 h.1,v7 h.2]at hh⊢;exact hh
structure rL where
 items:Br→List Item
 inv:List pV
 mes:Nat→IE
 w:Nat:=0
def wrO(ops:List Oper):List Nat:=ops.flatMap fun o=>match o.dst with|some d=>[d]|none=>[]
def Wn:Code→List Nat
 |.region _ ops _=>wrO ops.toList
 |.seq a b=>Wn a++Wn b
 |.cond _ a b=>Wn a++Wn b
 |.block _ a=>Wn a
 |.loop a=>Wn a
 |.scope a=>Wn a
 |.rangeFunc _ _ a b=>Wn a++Wn b
 |_=>[]
def qr(t:Nat):List Item→Bool
 |[]=>false
 |.ri u::r=>Nat.beq u t||qr t r
 |.rb u::r=>Nat.beq u t||qr t r
 |.rl u _ _ _::r=>Nat.beq u t||qr t r
 |.sg u _::r=>Nat.beq u t||qr t r
 |_::r=>qr t r
def wsM(its:List Item):List Nat→Nat
 |[]=>0
 |t::r=>bif qr t its then wsM its r else 2 ^ t|||wsM its r
def jc:Nat→af→af
 |_,[]=>[]
 |s,(.r t,e)::r=>bif s.testBit t then jc s r else(.r t,e)::jc (s|||2 ^ t) r
 |s,x::r=>x::jc s r
theorem jT{t:Nat}:∀{L:af} {s:Nat},s.testBit t=true→ai (.r t) (jc s L)=none
 |[],s,h=>rfl
 |(.h id,e)::r,s,h=>by
  simp only[jc]
  rw[ak,if_neg (by intro hk;cases hk)];exact jT h
 |(.r u,e)::r,s,h=>by
  simp only[jc]
  cases hu:s.testBit u
  ·simp only[cond_false]
   rw[ak,if_neg (by intro hk;obtain rfl:=aO.r.inj hk;rw[h]at hu;cases hu)]
   exact jT (by rw[Nat.testBit_or,h,Bool.true_or])
  ·exact jT h
theorem jU{t:Nat}{v:aY}:∀{L:af} {s:Nat},ai (.r t) (jc s L)=some v→ai (.r t) L=some v
 |[],s,h=>h
 |(.h id,e)::r,s,h=>by
  simp only[jc]at h
  rw[ak,if_neg (by intro hk;cases hk)]at h⊢;exact jU h
 |(.r u,e)::r,s,h=>by
  simp only[jc]at h
  cases hu:s.testBit u
  ·rw[hu]at h
   simp only[cond_false]at h
   rw[ak]at h⊢
   by_cases hk:aO.r u=aO.r t
   ·rw[if_pos hk]at h⊢;exact h
   ·rw[if_neg hk]at h⊢;exact jU h
  ·rw[hu]at h
   simp only[cond_true]at h
   rw[ak,if_neg]
   ·exact jU h
   ·intro hk
    obtain rfl:=aO.r.inj hk
    rw[jT hu]at h;cases h
theorem lW{lo hi:Nat}:∀{L:af} {s:Nat},af.avo lo hi L=true→af.avo lo hi (jc s L)=true
 |[],s,h=>rfl
 |(.h id,e)::r,s,h=>by
  simp only[af.avo,Bool.and_eq_true]at h
  simp only[jc,af.avo,h.1.1,h.1.2,lW h.2,Bool.and_self]
 |(.r u,e)::r,s,h=>by
  simp only[af.avo,Bool.and_eq_true]at h
  simp only[jc]
  cases s.testBit u
  ·simp only[cond_false,af.avo,h.1.1,h.1.2,lW h.2,Bool.and_self]
  ·exact lW h.2
def CB(its:List Item)(ws:List Nat)(R:af):af:=jc (wsM its ws) R
theorem Hp{its:List Item}{t:Nat}{c:BE}{s:SV}{ws:List Nat}{R:af}(h:ai (.r t) (CB its ws R)=some (.reg c s)):ai (.r t) R=some (.reg c s):=jU h
theorem P6{its:List Item}{lo hi:Nat}{ws:List Nat}{R:af}(h:af.avo lo hi R=true):af.avo lo hi (CB its ws R)=true:=lW h
def CC(an:rL)(its:List Item)(n N:Nat)(hb:Br)(amb:List F)(z:Ex×Br)(m:Nat):nf (Ex×Br):=
 match z.1 with
 |.normal=>
  bif !(Nat.ble (m+its.length) N)then none else
  match CA its m z.2 with
  |none=>none
  |some (b2,eqs2)=>
   let r:c8:=⟨m,n,its.length⟩
   bif gH r b2.R hb.R hb.R&&(gH r b2.H hb.H hb.H&&(an.inv.all (pV.eqr r)&&(an.mes m).eqr r (an.mes n)))then
    some ((eqs2++(z.2.g++(z.2.pc++amb)),.be (.cmp .lss (bf (an.mes m)) (bf (an.mes n))))::an.inv.map (fun x=>(eqs2++(z.2.g++(z.2.pc++amb)),x.at m)),.no,m+its.length)
   else none
 |.exit j=>some ([],.lf (.exit j,z.2),m)
 |.ret=>some ([],.lf (.ret,z.2),m)
def cX(K:Nat):Nat:=5000*K
def Hq(K:Nat)(amb:List F)(an:rL)(body:Nat→Br→nf (Ex×Br))(ws:List Nat)(n:Nat)(b:Br):nf (Ex×Br):=
 let its:=an.items b
 let d:=its.length
 let N:=n+cX K
 bif !(Nat.ble N ay&&Nat.ble (n+d) N)then none else
 match CA its n b with
 |none=>none
 |some (b1,eqs)=>
  let inv:=an.inv.map (pV.at n)
  let hb:Br:={b1 with g:=inv++b.g,pc:=b.pc,R:=CB its ws b1.R}
  bif !(F.avos (n+d) ay inv&&(an.mes n).avo (n+d) ay)then none else
  match body (n+d) hb with
  |none=>none
  |some (v,t,n2)=>
   match gR (CC an its n N hb amb) t n2 with
   |none=>none
   |some (v2,t2,n3)=>bif Nat.ble n3 N then some (inv.map (fun f=>(eqs++(b.g++(b.pc++amb)),f))++(v++v2),t2,N)else none
theorem rM{F:Fence}{n:Nat}{P:Program}{Q:Exit→Act→World→Prop}{a:Act}{w:World}{c:Code}(I:Nat→Act→World→Prop)(n₀:Nat)(h₀:I n₀ a w)
 (round:∀k a w,I k a w→c.wpIn F n P (Exit.then (fun a' w'=>∃k',k'<k∧I k' a' w') Q) a w):(Code.loop c).wpIn F n P Q a w:=by
 refine wpIn_loop (fun a w=>∃k,I k a w) (fun a w=>leastOf (fun k=>I k a w)) ⟨n₀,h₀⟩ ?_
 intro a w hI
 refine wpIn_mono (round _ a w (leastOf_spec hI).1) ?_
 intro e a' w' hq
 cases e with
 |normal=>
  obtain⟨n',hlt,hI'⟩:=hq
  exact show(∃n,I n a' w')∧leastOf (fun n=>I n a' w')<leastOf (fun n=>I n a w)from⟨⟨n',hI'⟩,Nat.lt_of_le_of_lt ((leastOf_spec ⟨n',hI'⟩).2 n' hI') hlt⟩
 |exit id=>exact hq
 |goto l=>exact hq
 |ret=>exact hq
 |panic ch=>exact hq
 |outgrown=>exact hq
theorem v8{K:Nat}{P:Program}{base:af}{C:bp}{nt:Nat}{amb:List F}{n0:Nat}(hamb:F.avos n0 ay amb=true){c:Code}{body:Nat→Br→nf (Ex×Br)}(hbody:rI base C nt amb n0 (fun a w Q=>c.wpIn (FC Fm.ro) 9 P Q a w) body)(an:rL)(ws:List Nat):
 rI base C nt amb n0 (fun a w Q=>(Code.loop c).wpIn (FC Fm.ro) 9 P Q a w) (Hq K amb an body ws):=by
 intro n b v t n' h hn0 hws hn
 unfold Hq at h
 simp only at h
 cases hN:(Nat.ble (n+cX K) ay&&Nat.ble (n+(an.items b).length) (n+cX K))
 ·rw[hN]at h;cases h
 rw[hN]at h
 simp only[Bool.not_true,cond_false]at h
 simp only[Bool.and_eq_true]at hN
 have hNB:=Nat.le_of_ble_eq_true hN.1
 have hdN:=Nat.le_of_ble_eq_true hN.2
 generalize hits:an.items b=its at*
 split at h
 ·cases h
 ·rename_i b1 eqs hhav
  cases hchk:(F.avos (n+its.length) ay (an.inv.map (pV.at n))&&(an.mes n).avo (n+its.length) ay)
  ·rw[hchk]at h;cases h
  rw[hchk]at h
  simp only[Bool.not_true,cond_false]at h
  simp only[Bool.and_eq_true]at hchk
  split at h
  ·cases h
  ·rename_i v1 t1 n2 hrun
   split at h
   ·cases h
   ·rename_i v2 t2 n3 hbd
    cases hle3:Nat.ble n3 (n+cX K)
    ·rw[hle3]at h;cases h
    rw[hle3]at h
    simp only[cond_true,Option.some.injEq,Prod.mk.injEq]at h
    obtain⟨rfl,rfl,rfl⟩:=h
    have hn3:=Nat.le_of_ble_eq_true hle3
    have hambn:=F.aq hn0 (Nat.le_refl _) hamb
    obtain⟨⟨w1,w2⟩,hk⟩:=oj hhav hws (by omega)
    have hbws:({b1 with g:=an.inv.map (pV.at n)++b.g,pc:=b.pc,R:=CB its ws b1.R}:Br).ws base (n+its.length):=
     ⟨F.bt hchk.1 (F.aq (by omega) (Nat.le_refl _) hws.1),F.aq (by omega) (Nat.le_refl _) hws.2.1,P6 w1.2.2.1,w1.2.2.2.1,w1.2.2.2.2⟩
    obtain⟨a1,a2,a3,a4⟩:=hbody (n+its.length) _ v1 t1 n2 hrun (by omega) hbws (by omega)
    let hb:Br:={b1 with g:=an.inv.map (pV.at n)++b.g,pc:=b.pc,R:=CB its ws b1.R}
    have key:∀(ρ0:ap) (k:Nat) (e:Exit) (a':Act) (w':World) (z:Ex×Br) (m:Nat) (v:dU) (t:T (Ex×Br)) (m':Nat),CC an its n (n+cX K) hb amb z m=some (v,t,m')→(n2≤m∧z.2.ws base m)→m≤ay→
     m≤m'∧m'≤ay∧t.all m' (fun x=>x.2.ws base m')∧(ab v→∀ρ,(qB C nt ρ z e a' w'∧ar ρ amb∧b7 n (n+cX K) ρ0 ρ∧((an.mes n).den ρ).toNat=k∧(ar ρ0 b.g∧ar ρ0 b.pc))→
      j8 (fun Q=>Exit.then (fun a w=>∃k',k'<k∧∃σ,b7 n (n+cX K) ρ0 σ∧uj C nt σ hb a w∧((an.mes n).den σ).toNat=k') Q e a' w') (qB C nt) ρ m m' t):=by
     intro ρ0 k e a' w' z m v t m' hz hwz hm
     obtain⟨ze,zb⟩:=z
     cases ze with
     |exit j=>
      simp only[CC,Option.some.injEq,Prod.mk.injEq]at hz
      obtain⟨rfl,rfl,rfl⟩:=hz
      exact⟨Nat.le_refl _,hm,hwz.2,fun _ ρ hp Q hQ=>by obtain⟨⟨rfl,hbs⟩,_⟩:=hp;exact hQ _ ρ a' w' (b7.refl _ _ _) ⟨rfl,hbs⟩⟩
     |ret=>
      simp only[CC,Option.some.injEq,Prod.mk.injEq]at hz
      obtain⟨rfl,rfl,rfl⟩:=hz
      exact⟨Nat.le_refl _,hm,hwz.2,fun _ ρ hp Q hQ=>by obtain⟨⟨rfl,hbs⟩,_⟩:=hp;exact hQ _ ρ a' w' (b7.refl _ _ _) ⟨rfl,hbs⟩⟩
     |normal=>
      simp only[CC]at hz
      cases hmN:Nat.ble (m+its.length) (n+cX K)
      ·rw[hmN]at hz;cases hz
      rw[hmN]at hz
      simp only[Bool.not_true,cond_false]at hz
      have hmN':=Nat.le_of_ble_eq_true hmN
      split at hz
      ·cases hz
      ·rename_i b2 eqs2 hh2
       cases hc2:(gH ⟨m,n,its.length⟩ b2.R hb.R hb.R&&(gH ⟨m,n,its.length⟩ b2.H hb.H hb.H&&(an.inv.all (pV.eqr ⟨m,n,its.length⟩)&&(an.mes m).eqr ⟨m,n,its.length⟩ (an.mes n))))
       ·rw[hc2]at hz;cases hz
       rw[hc2]at hz
       simp only[cond_true,Option.some.injEq,Prod.mk.injEq]at hz
       obtain⟨rfl,rfl,rfl⟩:=hz
       simp only[Bool.and_eq_true]at hc2
       obtain⟨s1,s2,s3,s4⟩:=hc2
       refine⟨by omega,by omega,trivial,fun hv ρ hp Q hQ=>?_⟩
       obtain⟨⟨he,hbs⟩,hA,hag0,hmes,hg0,hpc0⟩:=hp
       simp only at he hbs
       subst he
       obtain⟨⟨x1,x2⟩,hk2⟩:=oj hh2 hwz.2 (by omega)
       obtain⟨ρ3,hag3,hb3,heq3⟩:=hk2 hbs
       have hws2:Br.ws base m zb:=hwz.2
       have hΓ:ar ρ3 (eqs2++(zb.g++(zb.pc++amb))):=by
        have hb3':=hbs.agr hws2 hag3 (by omega)
        exact aA.2 ⟨heq3,aA.2 ⟨hb3'.g,aA.2 ⟨hb3'.pc,(aZ hag3 (F.aq (by omega) (by omega) hambn)).2 hA⟩⟩⟩
       have hlt:=cL (hv _ (.head _) ρ3 hΓ)
       simp only[aP]at hlt
       have hinv:∀x,x∈an.inv→(x.at m).holds ρ3:=fun x hx=>hv (_,x.at m) (.tail _ (List.mem_map.2 ⟨x,hx,rfl⟩)) ρ3 hΓ
       let r:c8:=⟨m,n,its.length⟩
       have hagσ:b7 n (n+cX K) ρ0 (r.env ρ3):=by
        have h1:b7 n (n+cX K) ρ0 ρ3:=hag0.trans (hag3.mono (by omega) (by omega)) (Nat.le_refl _) (Nat.le_refl _)
        exact h1.trans ((r.N2 ρ3).mono (Nat.le_refl _) (by show n+its.length≤n+cX K;omega)) (Nat.le_refl _) (Nat.le_refl _)
       have hmσ:(an.mes n).den (r.env ρ3)=(an.mes m).den ρ3:=IE.aD _ _ s4
       have hmn:(an.mes n).den ρ3=(an.mes n).den ρ:=IE.ag hag3 _ (IE.ad (by omega) (by omega) _ hchk.2)
       refine⟨((an.mes n).den (r.env ρ3)).toNat,?_,r.env ρ3,hagσ,⟨?_,?_,uZ s2 hb3.hd,P5 s1 hb3.rd⟩,rfl⟩
       ·rw[hmσ]
        rw[hmn]at hlt
        rw[←hmes]
        omega
       ·refine aA.2 ⟨fun f hf=>?_,(aZ hagσ (F.aq (Nat.le_refl _) hNB hws.1)).2 hg0⟩
        obtain⟨x,hx,rfl⟩:=List.mem_map.1 hf
        exact pV.gg (r:=r) (List.all_eq_true.1 s3 x hx) (hinv x hx)
       ·exact(aZ hagσ (F.aq (Nat.le_refl _) hNB hws.2.1)).2 hpc0
    have all1:t1.all n2 (fun z=>n2≤n2∧z.2.ws base n2):=T.bo (Nat.le_refl _) (fun z hz=>⟨Nat.le_refl _,hz⟩) a3
    have base0:=fun(ρ0:ap) (k:Nat) (e:Exit) (a':Act) (w':World)=>gE (ws:=fun m (z:Ex×Br)=>n2≤m∧z.2.ws base m) (ws':=fun m (z:Ex×Br)=>z.2.ws base m)
     (fun _ _ z hnm hz=>⟨Nat.le_trans hz.1 hnm,Br.bh hnm hz.2⟩) (fun _ _ z hnm hz=>Br.bh hnm hz) (key ρ0 k e a' w') t1 n2 v2 t2 n3 hbd all1 a2
    obtain⟨g1,g2,g3,_⟩:=base0 ⟨fun _=>0,fun _=>false,fun _=>0,fun _ _=>0,fun _ _ _=>0,fun _=>undef,fun _ _=>undef⟩ 0 .normal ⟨#[],[]⟩ C.w0
    refine⟨by omega,hNB,T.bo hn3 (fun z hz=>Br.bh hn3 hz) g3,fun hv ρ0 a w hA hb0 Q hQ=>?_⟩
    obtain⟨hv1,hv2⟩:=hv.app
    obtain⟨hv2,hv3⟩:=hv2.app
    have hAσ:∀σ,b7 n (n+cX K) ρ0 σ→ar σ amb:=fun σ hag=>(aZ hag (F.aq (Nat.le_refl _) hNB hambn)).2 hA
    obtain⟨ρ1,hag1,hb1,heq1⟩:=hk hb0
    have hΓ1:ar ρ1 (eqs++(b.g++(b.pc++amb))):=by
     have hb0':=hb0.agr hws hag1 (by omega)
     exact aA.2 ⟨heq1,aA.2 ⟨hb0'.g,aA.2 ⟨hb0'.pc,(aZ hag1 (F.aq (Nat.le_refl _) (by omega) hambn)).2 hA⟩⟩⟩
    have hb0':=hb0.agr hws hag1 (by omega)
    have hstart:uj C nt ρ1 hb a w:=
     ⟨aA.2 ⟨fun f hf=>hv1 (_,f) (List.mem_map.2 ⟨f,hf,rfl⟩) ρ1 hΓ1,hb0'.g⟩,hb0'.pc,hb1.hd,⟨hb1.rd.defers,hb1.rd.size,fun t c s hl=>hb1.rd.regs t c s (Hp hl)⟩⟩
    refine rM (fun k a w=>∃σ,b7 n (n+cX K) ρ0 σ∧uj C nt σ hb a w∧((an.mes n).den σ).toNat=k) ((an.mes n).den ρ1).toNat ⟨ρ1,hag1.mono (Nat.le_refl _) (by omega),hstart,rfl⟩ ?_
    intro k a w hI
    obtain⟨σ,hagσ,hbσ,hmσ⟩:=hI
    refine a4 hv2 σ a w (hAσ σ hagσ) hbσ _ fun e ρ2 a' w' hag2 hp=>?_
    have hag02:b7 n (n+cX K) ρ0 ρ2:=hagσ.trans (hag2.mono (by omega) (by omega)) (Nat.le_refl _) (Nat.le_refl _)
    have hm2:((an.mes n).den ρ2).toNat=k:=by
     rw[IE.ag hag2 _ (IE.ad (Nat.le_refl _) a2 _ hchk.2)];exact hmσ
    obtain⟨_,_,_,g4⟩:=base0 ρ0 k e a' w'
    refine g4 hv3 ρ2 (T.bd (fun z hz=>⟨hz,hAσ ρ2 hag02,hag02,hm2,hb0.g,hb0.pc⟩) hp) Q fun e' ρ4 a'' w'' hag4 hp'=>?_
    exact hQ e' ρ4 a'' w'' (hag02.trans (hag4.mono (by omega) hn3) (Nat.le_refl _) (Nat.le_refl _)) hp'
end
section
variable [cg]
def lh:Code→Option Nat
 |.region id _ _=>some id
 |.seq a b=>match lh a with
  |some i=>some i
  |none=>lh b
 |.cond _ a b=>match lh a with
  |some i=>some i
  |none=>lh b
 |.block _ a=>lh a
 |.loop a=>lh a
 |.scope a=>lh a
 |_=>none
def CD:Code→Nat
 |.seq a b=>CD a+CD b
 |.cond _ a b=>CD a+CD b
 |.block _ a=>CD a
 |.loop a=>CD a+1
 |.scope a=>CD a
 |_=>0
abbrev cj:=Nat→Nat→Br→Option rL
def lpF(ann:cj)(U:Nat)(f:Nat):dG:=fun c body amb n b=>
 match lh c with
 |some i=>match ann f i b with
  |some an=>Hq (CD c+1+an.w) amb an body (Wn c) n b
  |none=>lJ body U n b
 |none=>lJ body U n b
theorem Xm(P:Program)(ann:cj)(U f:Nat):rK P (lpF ann U f):=by
 intro base C nt amb n0 hamb c body hb n b v t n' h
 unfold lpF at h
 split at h
 ·split at h
  ·rename_i an _;exact v8 hamb hb an (Wn c) n b v t n' h
  ·exact lK P U base C nt amb n0 hamb c body hb n b v t n' h
 ·exact lK P U base C nt amb n0 hamb c body hb n b v t n' h
def v9(P:Program)(ctr:aU)(ann:cj)(U k:Nat):aU:=tbl P ctr (drF P) (lpF ann U) k
theorem gJ{P:Program}(hm:P.follows .mixedOrders=true)(hN:iS P){ctr:aU}(hctr:bI P ctr)(ann:cj)(U k:Nat):bI P (v9 P ctr ann U k):=
 Hl hctr hN (fun _ hc=>Hn hm hN hc) (Xm P ann U) k
def gK:cj:=fun _ _ _=>none
end
end Go.Proofs.YteelgjcnkhmigaaGreatDoor.E
