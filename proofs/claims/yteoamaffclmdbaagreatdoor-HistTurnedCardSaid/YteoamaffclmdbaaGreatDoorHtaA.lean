import Derived.Test.YteoamaffclmdbaaGreatDoorCards
import Derived.LaidHandle
import Derived.Lib.LaidU8
import Derived.Deep.DeepWitnessRowRef
import Derived.ProofKit
import Derived.SizedLaws
import Derived.OpenShut
import Derived.Deep.Fields
import Derived.Shelf.Vars
import Derived.Lib.LaidIn
set_option linter.all false
namespace Go
def te{α:Type}{o:Option α}{a b:α}(h:o=some a)(e:a=b:=by kernel_rfl):o=some b:=h.trans (congrArg some e)
def aJ{p:Prop}(h:p:=by omega):=h
def gm{p:Prop}(h:p:=by simp;omega):=h
def dx{p:Prop}(h:p:=by simp):=h
def fu{p:Prop}(h:p:=by kernel_rfl):=h
def jK{p:Prop}(h:p:=by grind):=h
def ml{p:Prop}(h:p:=by decide):=h
def bR{a b:Prop}(x:a)(y:b):=And.intro x y
def dy:=@Array.getD_eq_getD_getElem?
def cj:=@Array.getElem?_append_left
def bg:=@Array.getElem?_eq_getElem
def iv:=@Array.getElem?_eq_none
def fK:=@Array.getElem?_eq_some_iff
def iM:=@Array.getElem?_map
def gW:=@Array.getElem?_modify
def fU:=@Array.getElem?_push
def fD:=@Array.getElem?_setIfInBounds_ne
def hV:=@Array.getElem?_setIfInBounds_self
def lO:=@Array.mapM_eq_mapM_toList
def jM:=@Array.replicate_succ
def jN:=@Array.replicate_zero
def fY:=@Array.size_append
def bw:=@Bool.and_eq_true
def dR:=@Bool.and_false
def jO:=@Bool.and_self
def gb:=@Bool.and_true
def cz:=@Bool.eq_iff_iff
def cI:=@Bool.false_and
def af:=@Bool.false_eq_true
def cV:=@Bool.false_or
def iq:=@Bool.not_eq_true'
def dG:=@Bool.not_false
def cu:=@Bool.not_true
def jP:=@Bool.or_eq_false_iff
def df:=@Bool.or_eq_true
def fE:=@Bool.or_false
def fF:=@Bool.or_self
def er:=@Bool.or_true
def cN:=@Bool.true_and
def dM:=@Bool.true_or
def ir:=@Eq.trans
def dU:=@Int.le_refl
def bl:=@Int.lt_irrefl
def kD:=@Int.natCast_nonneg
def dN:=@Int.toNat_natCast
def oH:=@Int.toNat_of_nonneg
def jQ:=@List.Pairwise.filter
def oI:=@List.all_append
def kK:=@List.all_cons
def bN:=@List.all_eq_true
def jR:=@List.any_cons
def iL:=@List.any_eq_true
def o4:=@List.any_nil
def cd:=@List.append_assoc
def dg:=@List.append_nil
def kc:=@List.append_toArray
def mD:=@List.cons.injEq
def aG:=@List.cons_append
def jz:=@List.contains_iff_mem
def lU:=@List.countP_cons
def nA:=@List.countP_le_length
def cW:=@List.drop_eq_getElem_cons
def jn:=@List.drop_eq_nil_of_le
def nJ:=@List.drop_length
def iw:=@List.drop_of_length_le
def oJ:=@List.drop_succ_cons
def nc:=@List.drop_zero
def dH:=@List.eq_nil_of_length_eq_zero
def nB:=@List.eq_nil_or_concat
def mf:=@List.eq_of_mem_replicate
def fj:=@List.exists_cons_of_ne_nil
def cp:=@List.ext_getElem?
def kE:=@List.filter_append
def fq:=@List.filter_cons
def mF:=@List.filter_cons_of_pos
def jj:=@List.filter_eq_self
def kL:=@List.filter_nil
def fx:=@List.find?_eq_none
def mG:=@List.flatMap_eq_nil_iff
def eM:=@List.foldl_cons
def ng:=@List.foldl_nil
def lf:=@List.getD_eq_getElem?_getD
def nP:=@List.getElem?_append
def aN:=@List.getElem?_append_left
def bj:=@List.getElem?_append_right
def cZ:=@List.getElem?_cons_succ
def gq:=@List.getElem?_cons_zero
def cF:=@List.getElem?_drop
def ai:=@List.getElem?_eq_getElem
def fG:=@List.getElem?_eq_none
def aj:=@List.getElem?_eq_some_iff
def aX:=@List.getElem?_map
def gw:=@List.getElem?_modify
def bX:=@List.getElem?_of_mem
def iy:=@List.getElem?_range
def ic:=@List.getElem?_replicate
def gQ:=@List.getElem?_set
def fa:=@List.getElem?_set_ne
def eE:=@List.getElem?_set_self
def fy:=@List.getElem?_take
def bH:=@List.getElem?_take_of_lt
def js:=@List.getElem_mem
def kd:=@List.getElem_of_mem
def aA:=@List.length_append
def aw:=@List.length_cons
def fS:=@List.length_drop
def dz:=@List.length_eq_zero_iff
def bU:=@List.length_filter_le
def cU:=@List.length_map
def az:=@List.length_nil
def gS:=@List.length_pos_iff
def kU:=@List.length_replicate
def dh:=@List.length_set
def cr:=@List.length_take
def aW:=@List.map_append
def c8:=@List.map_congr_left
def aH:=@List.map_cons
def jS:=@List.map_drop
def oL:=@List.map_eq_nil_iff
def gJ:=@List.map_map
def aQ:=@List.map_nil
def gY:=@List.map_replicate
def gh:=@List.map_set
def eP:=@List.map_take
def bq:=@List.mem_append
def eK:=@List.mem_append_left
def iI:=@List.mem_append_right
def bJ:=@List.mem_cons
def bt:=@List.mem_cons_of_mem
def bD:=@List.mem_cons_self
def eo:=@List.mem_filter
def jt:=@List.mem_flatMap
def kV:=@List.mem_iff_getElem?
def eL:=@List.mem_map
def iG:=@List.mem_of_find?_eq_some
def aE:=@List.mem_of_getElem?
def dA:=@List.mem_of_mem_drop
def dS:=@List.mem_of_mem_take
def jE:=@List.mem_or_eq_of_mem_set
def gj:=@List.mem_range
def bT:=@List.mem_singleton
def aP:=@List.nil_append
def lg:=@List.nodup_append
def oM:=@List.nodup_cons
def ly:=@List.nodup_nil
def ft:=@List.pairwise_append
def du:=@List.pairwise_cons
def cm:=@List.pairwise_iff_getElem
def jT:=@List.pairwise_map
def lV:=@List.prefix_refl
def lh:=@List.push_toArray
def lA:=@List.range_eq_range'
def jk:=@List.replicate_succ
def nQ:=@List.replicate_succ'
def ju:=@List.set_eq_take_append_cons_drop
def da:=@List.size_toArray
def iz:=@List.takeWhile_cons
def cB:=@List.take_add_one
def cv:=@List.take_append_drop
def fO:=@List.take_append_of_le_length
def bF:=@List.take_length
def p8:=@List.take_nil
def bB:=@List.take_of_length_le
def bQ:=@Nat.add_mul
def dw:=@Nat.add_sub_cancel'
def iY:=@Nat.add_sub_cancel_left
def dp:=@Nat.add_zero
def kW:=@Nat.div_lt_iff_lt_mul
def nR:=@Nat.eq_of_testBit_eq
def gZ:=@Nat.eq_zero_or_pos
def kl:=@Nat.le_add_right
def fL:=@Nat.le_mul_of_pos_right
def au:=@Nat.le_refl
def iZ:=@Nat.le_succ_of_le
def aY:=@Nat.le_trans
def ig:=@Nat.lt_irrefl
def bu:=@Nat.lt_of_lt_of_le
def bC:=@Nat.lt_or_ge
def ja:=@Nat.lt_trichotomy
def iA:=@Nat.min_eq_left
def nK:=@Nat.mod_eq_of_lt
def mj:=@Nat.mod_lt
def bd:=@Nat.mul_le_mul_right
def pO:=@Nat.mul_one
def gM:=@Nat.ne_of_lt
def jJ:=@Nat.not_lt_zero
def fM:=@Nat.one_mul
def lB:=@Nat.pow_lt_pow_right
def mH:=@Nat.sub_mul
def bP:=@Nat.sub_zero
def mX:=@Nat.succ_mul
def nh:=@Nat.testBit_or
def oN:=@Nat.testBit_two_pow
def aK:=@Nat.zero_add
def cS:=@Nat.zero_le
def jF:=@Nat.zero_mul
def eY:=@Ne.symm
def dB:=@Option.bind_eq_some_iff
def hZ:=@Option.getD_none
def bz:=@Option.getD_some
def fz:=@Option.isSome_iff_exists
def cY:=@Option.isSome_none
def bW:=@Option.isSome_some
def aV:=@Option.map_eq_some_iff
def oO:=@Option.map_none
def dZ:=@Option.map_some
def oQ:=@Option.some.inj
def fZ:=@Option.some.injEq
def kG:=@Option.toList_some
def jl:=@Prod.mk.injEq
def kX:=@UInt8.lt_iff_toNat_lt
def oS:=@UInt8.lt_irrefl
def kM:=@UInt8.toNat_inj
def jU:=@and_self
def pP:=@and_true
def ke:=@beq_eq_false_iff_ne
def eu:=@beq_iff_eq
def lX:=@beq_self_eq_true
def pb:=@bne_iff_ne
def av:=@bne_self_eq_false
def gr:=@decide_eq_false
def dC:=@decide_eq_false_iff_not
def il:=@decide_eq_true
def bh:=@decide_eq_true_eq
def fH:=@eq_iff_iff
def p9:=@ge_iff_le
def mY:=@getElem!_pos
def aD:=@if_false
def aR:=@if_neg
def aZ:=@if_pos
def aI:=@if_true
def jb:=@iff_true
def pc:=@not_or
def ni:=@not_true_eq_false
def jV:=@of_decide_eq_true
end Go
namespace Go.Abs
section
open Go
inductive Tk where
 |sh|c0|own (k:Nat)
 deriving DecidableEq,Repr
inductive ag where
 |bool (b:Bool)
 |int (k:IntKind) (n:Int)
 |str (s:List UInt8)
 |slice (tk:Tk) (xs:List ag)
 |agg (cs:List ag)
 |tuple (vs:List ag)
 |ptr (id off:Nat)
 |jC (cs:List ag)
 |func (f:Nat) (caps:List ag)
 |iC (id:Nat)
 |j7 (id:Nat)
 |ki (ks vs:List ag)
 |cD (id ver sz lo hi:Nat)
 |jv (id ver i off:Nat)
 |qZ (f:Nat) (fs:List ag)
 |ko (t id off:Nat)
 |raw (v:Value)
 |nI (v:Value)
 |any
 deriving Inhabited
def ag.jo:ag->Bool
 | .nI _=>true
 | .bool _ | .int .. | .str _ | .slice .. | .agg _ | .tuple _ | .ptr .. | .jC _ | .func .. | .iC _ | .j7 _ | .ki .. | .cD .. | .jv .. | .qZ .. | .ko .. | .raw _ | .any=>false
abbrev aF(n:Int):ag:=.int .i64 n
abbrev gG(l:List ag):ag:=.slice .sh l
abbrev cA(n:Nat):ag:=.ptr n 0
inductive cL where
 |cells (cs:List ag)
 |tick (sz n:Nat)
 |map (ks vs:List ag)
 |nW (s:List UInt8) (pos:Nat)
 |arr (sz ver:Nat) (xs:List ag)
 |vW
def cL.tag:cL->Nat
 | .cells _=>0
 | .tick sz _=>sz+3
 | .map _ _=>1
 | .nW _ _=>2
 | .arr sz _ _=>sz+3
 | .vW=>3
def cL.fixed:cL->Bool
 | .tick _ _ | .arr _ _ _ | .vW=>false
 |_=>true
def cL.loose:cL->Bool
 | .tick _ _ | .arr _ _ _=>true
 |_=>false
abbrev cC(l:List ag):cL:=.cells l
abbrev aC:=List cL
abbrev Env:=List (Nat×ag)
def bI{α β:Type}(x:Option α)(f:α->Option β):Option β:=match x with
 |some a=>f a
 |none=>none
@[congr] theorem adV {α β:Type} {x x':Option α} {f:α->Option β} (h:x=x'):bI x f=bI x' f:=by rw[h]
@[simp] theorem bO {α β:Type} (a:α) (f:α->Option β):bI (some a) f=f a:=rfl
@[simp] theorem ahu {α β:Type} (f:α->Option β):bI none f=none:=rfl
def Bt{α:Type}(b:Bool)(x y:Option α):Option α:=match b with
 |true=>x
 |false=>y
@[congr] theorem air {α:Type} {b b':Bool} {x y:Option α} (h:b=b'):Bt b x y=Bt b' x y:=by rw[h]
@[simp] theorem vJ {α:Type} (x y:Option α):Bt true x y=x:=rfl
@[simp] theorem qq {α:Type} (x y:Option α):Bt false x y=y:=rfl
@[simp] theorem PS {α β:Type} (b:Bool) (x y:Option α) (f:α->Option β):bI (Bt b x y) f=Bt b (bI x f) (bI y f):=by cases b<;>rfl
open Classical in
noncomputable def cq{α:Type}(p:Prop)(x:Option α):Option α:=if p then x else none
@[congr] theorem adX {α:Type} {p p':Prop} {x:Option α} (h:p=p'):cq p x=cq p' x:=by rw[h]
theorem fi{α:Type}{p:Prop}{x:Option α}(h:p):cq p x=x:=aZ h
@[simp] theorem L8 {α:Type} (x:Option α):cq True x=x:=if_pos trivial
@[simp] theorem adY {α:Type} (x:Option α):cq False x=none:=if_neg not_false
@[simp] theorem adW {α β:Type} (p:Prop) (x:Option α) (f:α->Option β):bI (cq p x) f=cq p (bI x f):=by
 unfold cq; split<;>rfl
def ib:Env->Nat->ag
 | [],_ => .any
 |(k,v)::e,t=>if k=t then v else ib e t
def ag.cells:ag->List ag
 | .agg cs=>cs
 |x=>[x]
def ag.jg:ag->Bool
 | .agg _ | .tuple _ | .any | .nI _=>false
 | .raw v=>match v with | .agg _ | .tuple _=>false|_=>true
 |_=>true
def ag.cells?:ag->Option (List ag)
 | .agg cs=>some cs
 | .tuple _ | .any | .nI _=>none
 | .raw (.agg _)=>none
 |x=>some [x]
def ag.shut:ag->ag
 | .slice _ xs => .slice .sh xs
 |x=>x
def ag.fT:ag->ag
 | .slice _ xs => .slice .sh xs
 | .agg cs => .agg (cs.map ag.shut)
 |x=>x
def ag.plainCell:ag->Bool
 | .bool _ | .int .. | .str _=>true
 | .slice .sh _=>true
 | .raw v=>match v with | .pointer none | .nilFunc | .nilIface | .map none | .func _ ⟨[]⟩ ⟨[]⟩=>true|_=>false
 |_=>false
def ag.plain:ag->Bool
 | .agg cs=>cs.all ag.plainCell
 |x=>x.plainCell
def ag.jA(bS:Nat)(M:aC):ag->ag
 | .slice (.own k) xs=>if k<bS then .slice (.own k) xs else .slice .sh xs
 | .ptr id off=>if id<bS then .ptr id off else .any
 | .iC id=>if id<bS then .iC id else .any
 | .j7 id=>if id<bS then .j7 id else .any
 | .cD id ver sz lo hi=>if id<bS then .cD id ver sz lo hi else match M[id]? with
  |some (.arr _ v xs)=>if v=ver then .slice .sh ((xs.take hi).drop lo) else .any
  |_ => .any
 | .jv id ver i off=>if id<bS then .jv id ver i off else .any
 | .ko t id off=>if id<bS then .ko t id off else .any
 | .func _ _ | .agg _ | .tuple _ => .any
 |x=>x
def ag.jG(bS:Nat)(M:aC):ag->ag
 | .func f caps => .func f (caps.map (ag.jA bS M))
 |x=>x.jA bS M
def ag.jW(bS:Nat)(M:aC):ag->ag
 | .agg cs => .agg (cs.map (ag.jG bS M))
 |x=>x.jG bS M
def ag.mL(bS:Nat)(M:aC):ag->ag
 | .tuple vs => .tuple (vs.map (ag.jW bS M))
 |x=>x.jW bS M
def cL.back(bS:Nat)(M:aC):cL->cL
 | .cells cs => .cells (cs.map (ag.jG bS M))
 | .tick sz n => .tick sz n
 | .map ks vs => .map ks (vs.map (ag.jW bS M))
 | .nW s p => .nW s p
 | .arr sz v xs => .arr sz v xs
 | .vW => .vW
def iV(bS:Nat)(M:aC):aC:=(M.take bS).map (cL.back bS M)
def wE(bS:Nat)(M:aC)(bp:Env):Env:=bp.map fun x=>(x.1,x.2.mL bS M)
def ag.kg(bS:Nat)(M:aC):ag->ag
 | .slice _ xs => .slice .sh xs
 | .iC id=>if id<bS then .iC id else match M[id]? with
  |some (.map ks vs)=>if vs.all ag.plain&&ks.all ag.plainCell then .ki ks vs else .any
  |_ => .any
 |x=>x.jG bS M
def ag.kN(bS:Nat)(M:aC):ag->ag
 | .agg cs => .agg (cs.map (ag.kg bS M))
 |x=>x.kg bS M
def ag.lF(bS:Nat)(M:aC):ag->ag
 | .tuple vs => .tuple (vs.map (ag.kN bS M))
 |x=>x.kN bS M
def ag.iK:ag->List Nat
 | .ptr id _ | .iC id | .j7 id | .cD id _ _ _ _ | .jv id _ _ _=>[id]
 | .slice (.own k) _=>[k]
 | .ko _ id _=>[id]
 |_=>[]
def ag.nH:ag->List Nat
 | .func _ caps=>caps.flatMap ag.iK
 |x=>x.iK
def ag.ids:ag->List Nat
 | .agg cs=>cs.flatMap ag.nH
 |x=>x.nH
def ag.IU:ag->Bool
 | .func _ _ | .agg _ | .tuple _=>false
 |_=>true
def ag.vB:ag->Bool
 | .func _ caps=>caps.all ag.IU
 | .agg _ | .tuple _=>false
 |_=>true
def ag.flat:ag->Bool
 | .agg cs=>cs.all ag.vB
 |x=>x.vB
def cL.flat:cL->Bool
 | .vW=>false
 | .cells cs=>cs.all ag.vB
 | .map _ vs=>vs.all ag.flat
 |_=>true
def ag.uw(ρ:Nat->Nat):ag->ag
 | .ptr id off => .ptr (ρ id) off
 | .iC id => .iC (ρ id)
 | .j7 id => .j7 (ρ id)
 | .cD id v sz lo hi => .cD (ρ id) v sz lo hi
 | .jv id v i off => .jv (ρ id) v i off
 | .slice (.own k) xs => .slice (.own (ρ k)) xs
 | .ko t id off => .ko t (ρ id) off
 |x=>x
def ag.sk(ρ:Nat->Nat):ag->ag
 | .func f caps => .func f (caps.map (ag.uw ρ))
 |x=>x.uw ρ
def ag.pq(ρ:Nat->Nat):ag->ag
 | .agg cs => .agg (cs.map (ag.sk ρ))
 |x=>x.sk ρ
def ag.Aq(ρ:Nat->Nat):ag->ag
 | .tuple vs => .tuple (vs.map (ag.pq ρ))
 |x=>x.pq ρ
def ag.wH:ag->Bool
 | .tuple vs=>vs.all ag.flat
 |x=>x.flat
def cL.pq(ρ:Nat->Nat):cL->cL
 | .cells cs => .cells (cs.map (ag.sk ρ))
 | .map ks vs => .map ks (vs.map (ag.pq ρ))
 |b=>b
def cL.ids:cL->List Nat
 | .cells cs=>cs.flatMap ag.nH
 | .map _ vs=>vs.flatMap ag.ids
 |_=>[]
def nth{α:Type}:List α->Nat->Option α
 | [],_=>none
 |a::_,0=>some a
 |_::l,n+1=>nth l n
def iR{α:Type}:List α->Nat->α->List α
 | [],_,_=>[]
 |_::l,0,x=>x::l
 |a::l,n+1,x=>a::iR l n x
def kb:List Nat->List Nat->List Nat
 |a,[]=>a
 |a,x::r=>kb (if a.contains x then a else a++[x]) r
def qz(M:aC):List Nat->List Nat
 | []=>[]
 |i::r=>(match nth M i with|some b=>b.ids|none=>[])++qz M r
def kx(M:aC)(acc:List Nat):List Nat:=kb acc (qz M acc)
def reach(M:aC)(l:List Nat):List Nat:=kx M (kx M (kx M (kb [] l)))
def iB:List Nat->Nat->Nat
 | [],_=>0
 |a::l,x=>if a=x then 0 else iB l x+1
def wD(ids:List Nat)(i:Nat):Nat:=(nth ids i).getD 0
def jZ(M:aC)(ρ:Nat->Nat):List Nat->Option aC
 | []=>some []
 |i::r=>match nth M i with
  |some b=>if b.flat then bI (jZ M ρ r) fun l=>some (b.pq ρ::l) else none
  |none=>none
def mb(ids:List Nat)(M:aC):List Nat->aC->aC
 |i::r,b::l=>mb ids (iR M i (b.pq (wD ids))) r l
 |_,_=>M
def ag.n9(M:aC):ag->ag
 | .cD id ver sz lo hi=>match nth M id with
  |some (.arr _ v xs)=>if v=ver then .slice .sh ((xs.take hi).drop lo) else .any
  |_ => .any
 |x=>x
def ag.rq(M:aC):ag->ag
 | .agg cs => .agg (cs.map (ag.n9 M))
 |x=>x.n9 M
def qm(M:aC):List Nat->aC
 | []=>M
 |i::r=>match nth M i with
  |some (.arr sz _ xs)=>qm (iR M i (.tick sz xs.length)) r
  |_=>qm M r
inductive fX where
 |tmp (t:Nat)
 |tg (v:ag)
def fX.ev(bp:Env):fX->ag
 | .tmp t=>ib bp t
 | .tg v=>v
inductive Od where
 |add|sub|mul|quo|rem|eql|neq|lss|leq|gtr|geq|shl|shr|and|or|bic
 deriving DecidableEq,Repr
inductive FK where
 |i|s|b
 deriving DecidableEq
inductive ky where
 |mv (x:fX)
 |own (sz:Nat) (x:fX)
 |pick (c a b:fX)
 |yU (cs:List ag)
 |box (x:fX)
 |build (zero:List ag) (parts:List (Nat×Nat×fX))
 |lits (sz:Nat) (parts:List fX)
 |Gc (sz:Nat) (parts:List fX)
 |mP (n:Nat) (x:fX)
 |rH (x:fX)
 |store (n:Nat) (a x:fX)
 |BG (sz p n:Nat) (a x:fX)
 |chk (x:fX)
 |bin (op:Od) (x y:fX)
 |QG (ks:List FK) (neg:Bool) (x y:fX)
 |eqB (neg:Bool) (x y:fX)
 |not (x:fX)
 |neg (x:fX)
 |conv (k:IntKind) (x:fX)
 |same (x:fX)
 |fn (f:Nat) (caps:List fX)
 |Fx (f:Nat) (firsts:List fX)
 |BD (x:fX) (lo hi:Option fX)
 |uA (sz:Nat) (x:fX) (lo hi mx:Option fX)
 |O0 (sz:Nat) (x hi:fX)
 |yE (off:Nat) (x:fX)
 |DG (off n:Nat) (x:fX)
 |DF (off:Nat) (x:fX)
 |uh (sz:Nat) (x i:fX)
 |Be (n sz:Nat) (x i:fX)
 |Bf (x i:fX)
 |extract (x:fX) (i:Nat)
 |call (f:Nat) (args:List fX)
 |sC (f:fX) (args:List fX)
 |BW (f:fX) (args:List fX)
 |BV (f:Nat) (args:List fX)
 |lj (f:Nat) (args:List fX)
 |wF (f:Nat) (args:List fX)
 |xd (sz:Nat) (zero:List ag) (x:fX)
 |VC (x:fX)
 |z6 (x:fX)
 |append (sz bytes:Nat) (x y:fX)
 |Bq (mx:Bool) (x y:fX)
 |b2s (x:fX)
 |mkMap
 |look (fk:FK) (zero:ag) (ok:Bool) (m k:fX)
 |gI (fk:FK) (m k v:fX)
 |PC (m:fX)
 |Qg (x:fX)
 |Gi (it:fX)
 |iface (t:Nat) (x:fX)
 |raise (x:fX)
 |mkS (zero:List ag) (n:fX)
 |PO (zero:List ag) (n:fX)
 |xV (sz bytes:Nat) (zero:List ag) (x n:fX)
 |vY (sz bytes:Nat) (x y:fX)
 |FE (sz:Nat) (x y:fX)
 |OL (sz:Nat)
structure db where
 dst:Option Nat
 op:ky
 guard:Option (Nat×Bool)
 grow:Bool:=false
 xC:Bool:=false
 sep:List Nat:=[]
 stop:Bool:=true
def ob(d:Nat)(o:ky):db:=⟨some d,o,none,false,false,[],true⟩
def og(d g:Nat)(b:Bool)(o:ky):db:=⟨some d,o,some (g,b),false,false,[],true⟩
def ox(o:ky):db:=⟨none,o,none,false,false,[],true⟩
def ky.Rl:ky->Bool
 | .call .. | .sC .. | .BW .. | .BV .. | .lj .. | .raise _=>true
 |_=>false
inductive cG where
 |skip
 |region (ops:List db) (draw:Bool) (live:List Nat)
 |seq (a b:cG)
 |cond (c:fX) (x y:cG)
 |block (id:Nat) (c:cG)
 |loop (live:List Nat) (c:cG)
 |nG (live:List Nat) (c:cG)
 |rq (t:Nat) (c:cG)
 |exit (id:Nat)
 |ret
inductive abJ where
 |normal|exit (id:Nat)|ret|nI (v:Value)
abbrev eR:=Nat->List ag->aC->Option (ag×aC)
def strLt:List UInt8->List UInt8->Bool
 |_,[]=>false
 | [],_::_=>true
 |a::x,b::y=>a<b||(a==b&&strLt x y)
def DX(k:IntKind)(a b:Int):Int:=k.wrap (BitVec.ofInt k.bits a &&& BitVec.ofInt k.bits b).toNat
def ior(k:IntKind)(a b:Int):Int:=k.wrap (BitVec.ofInt k.bits a ||| BitVec.ofInt k.bits b).toNat
def Hh(k:IntKind)(a b:Int):Int:=k.wrap (BitVec.ofInt k.bits a &&& ~~~BitVec.ofInt k.bits b).toNat
def pZ(b:UInt8):ag := .int .u8 b.toNat
def p7(op:Od):ag->ag->Option ag
 | .int k a,.int k' b =>
  match op with
  | .shl=>if 0<=b then some (.int k (k.wrap (a*2 ^ (min b.toNat k.bits)))) else none
  | .shr=>if 0<=b then some (.int k (a.fdiv (2 ^ (min b.toNat k.bits)))) else none
  |op=>if k≠k' then none else
   match op with
   | .add=>some (.int k (k.wrap (a+b)))
   | .sub=>some (.int k (k.wrap (a-b)))
   | .mul=>some (.int k (k.wrap (a*b)))
   | .quo=>if b=0 then none else some (.int k (k.wrap (a.tdiv b)))
   | .rem=>if b=0 then none else some (.int k (a.tmod b))
   | .eql=>some (.bool (a==b))
   | .neq=>some (.bool (a != b))
   | .lss=>some (.bool (a<b))
   | .leq=>some (.bool (a<=b))
   | .gtr=>some (.bool (a>b))
   | .geq=>some (.bool (a>=b))
   | .and=>some (.int k (DX k a b))
   | .or=>some (.int k (ior k a b))
   | .bic=>some (.int k (Hh k a b))
   |_=>none
 | .str a,.str b =>
  match op with
  | .add=>if ((a.length+b.length:Nat):Int)>IntKind.i64.max then none else some (.str (a++b))
  | .eql=>some (.bool (a==b))
  | .neq=>some (.bool (a != b))
  | .lss=>some (.bool (strLt a b))
  | .leq=>some (.bool (strLt a b||a==b))
  | .gtr=>some (.bool (!(strLt a b||a==b)))
  | .geq=>some (.bool (!(strLt a b)))
  |_=>none
 |_,_=>none
def kv:FK->ag->ag->Option Bool
 | .i,.int k a,.int k' b=>if k=k' then some (a==b) else none
 | .s,.str a,.str b=>some (a==b)
 | .b,.bool a,.bool b=>some (a==b)
 |_,_,_=>none
def kY:List FK->List ag->List ag->Option Bool
 | [],[],[]=>some true
 |k::ks,a::x,b::y=>bI (kv k a b) fun e=>bI (kY ks x y) fun f=>some (e&&f)
 |_,_,_=>none
def ag.norm:ag->ag
 | .agg [c]=>c
 |x=>x
def valOf:ag->Option Value
 | .int k n=>some (.int k n)
 | .agg [.int k n]=>some (.agg #[.int k n])
 |_=>none
def bytesOf:List ag->Option (List UInt8)
 | []=>some []
 | .int .u8 n::r=>bI (bytesOf r) fun l=>some (UInt8.ofNat n.toNat::l)
 |_=>none
def xw(fk:FK)(k:ag):List ag->List ag->Option (Option ag)
 | [],[]=>some none
 |k'::ks,v::vs=>bI (kv fk k k') fun b=>Bt b (some (some v)) (xw fk k ks vs)
 |_,_=>none
def xy(fk:FK)(k v:ag):List ag->List ag->Option (List ag×List ag)
 | [],[]=>bI (kv fk k k) fun _=>some ([k],[v])
 |k'::ks,v'::vs=>bI (kv fk k k') fun b=>Bt b (some (k::ks,v::vs)) (bI (xy fk k v ks vs) fun x=>some (k'::x.1,v'::x.2))
 |_,_=>none
def po(zero:ag)(ok:Bool)(r:Option ag):ag:=match ok with
 |true => .tuple [r.getD zero,.bool r.isSome]
 |false=>r.getD zero
def mapOf(M:aC):ag->Option (List ag×List ag)
 | .iC id=>match nth M id with|some (.map ks vs)=>some (ks,vs)|_=>none
 | .ki ks vs=>some (ks,vs)
 |_=>none
def mT(cs:List ag)(off:Nat)(new:List ag):List ag:=cs.take off++(new++cs.drop (off+new.length))
def putCells(e:ag)(off:Nat)(new:List ag):ag:=match e,new with
 | .agg cs,new => .agg (mT cs off new)
 |_,[c]=>c
 |e,_=>e
def mu(bp:Env):List ag->List (Nat×Nat×fX)->Option (List ag)
 |cs,[]=>some cs
 |cs,(off,n,x)::r =>
  bI (x.ev bp).cells? fun new=>if new.length=n/\off+n<=cs.length then mu bp (mT cs off new) r else none
def sZ(bp:Env)(sz:Nat):List fX->Option (List ag)
 | []=>some []
 |x::r=>if (x.ev bp).fT.plain=true/\(x.ev bp).fT.cells.length=sz then bI (sZ bp sz r) fun l=>some ((x.ev bp).fT::l) else none
def gD(bp:Env)(n:Nat):Option fX->Option Int
 |none=>some n
 |some x=>match x.ev bp with | .int _ i=>some i|_=>none
def wid(xs:List ag)(sz:Nat):Prop:=∀x,x∈xs->x.cells.length=sz
def ct(n bytes:Nat):Prop:=n*bytes<=2 ^ 44
noncomputable def aU(call:eR)(f:Nat)(vs:List ag)(M:aC):Option (ag×aC) :=
 if vs.all ag.flat then
  bI (jZ M (iB (reach M (vs.flatMap ag.ids))) (reach M (vs.flatMap ag.ids))) fun B =>
   if kx M (reach M (vs.flatMap ag.ids))=reach M (vs.flatMap ag.ids) then
    bI (call f (vs.map (ag.pq (iB (reach M (vs.flatMap ag.ids))))) B) fun x =>
     if x.2.length=B.length/\x.1.wH=true/\x.2.all cL.flat=true then some (x.1.Aq (wD (reach M (vs.flatMap ag.ids))),mb (reach M (vs.flatMap ag.ids)) M (reach M (vs.flatMap ag.ids)) x.2) else none
   else none
 else none
noncomputable def Bz(call:eR)(f:Nat)(vs:List ag)(M:aC):Option (ag×aC) :=
 if vs.all ag.flat=true/\vs.flatMap ag.ids=[] then
  bI (call f vs []) fun x=>match x.1,x.2 with
   | .slice (.own 0) xs,[.tick sz n]=>some (.slice (.own M.length) xs,M++[.tick sz n])
   |_,_=>none
 else none
def P7(sz L:Nat):ag:=if 500<=sz then .cD L 0 (sz-500) 0 0 else .slice (.own L) []
def P6(sz:Nat):cL:=if 500<=sz then .arr (sz-500) 0 [] else .tick sz 0
noncomputable def ei(call:eR)(bp:Env)(M:aC):ky->Option (ag×aC)
 | .mv x=>some (x.ev bp,M)
 | .own sz x =>
  match x.ev bp with
  | .slice .c0 []=>some (P7 sz M.length,M++[P6 sz])
  |v=>some (v,M)
 | .pick c a b=>match c.ev bp with
  | .bool t=>Bt t (some (a.ev bp,M)) (some (b.ev bp,M))
  |_=>none
 | .yU cs=>some (.ptr M.length 0,M++[.cells cs])
 | .box x=>bI (x.ev bp).cells? fun cs=>some (.ptr M.length 0,M++[.cells cs])
 | .build zero parts=>bI (mu bp zero parts) fun cs=>some (.agg cs,M)
 | .lits sz parts=>bI (sZ bp sz parts) fun l=>some (match l with|[] => .slice .c0 []|_ => .slice .sh l,M)
 | .Gc sz parts=>bI (sZ bp sz parts) fun l=>some (.slice (.own M.length) l,M++[.tick sz l.length])
 | .mP n x =>
  match x.ev bp with
  | .ptr id off=>match nth M id with
   |some (.cells cs)=>if off+n<=cs.length then some (.agg ((cs.drop off).take n),M) else none
   |_=>none
  | .jC cs=>if n<=cs.length then some (.agg (cs.take n),M) else none
  | .jv id ver i off=>match nth M id with
   |some (.arr _ v xs)=>if v=ver then bI (xs[i]?) fun e=>if off+n<=e.cells.length then some (.agg ((e.cells.drop off).take n),M) else none else none
   |_=>none
  |_=>none
 | .rH x =>
  match x.ev bp with
  | .ptr id off=>match nth M id with
   |some (.cells cs)=>bI (nth cs off) fun c=>some (c,M)
   |_=>none
  | .jC cs=>bI (nth cs 0) fun c=>some (c,M)
  | .jv id ver i off=>match nth M id with
   |some (.arr _ v xs)=>if v=ver then bI (xs[i]?) fun e=>bI (nth e.cells off) fun c=>some (c,M) else none
   |_=>none
  |_=>none
 | .store n a x =>
  match a.ev bp with
  | .ptr id off=>match nth M id with
   |some (.cells cs)=>bI (x.ev bp).cells? fun new =>
    if new.length=n/\off+n<=cs.length/\new.all ag.jg=true then some (.any,iR M id (.cells (mT cs off new))) else none
   |_=>none
  | .jv id ver i off=>match nth M id with
   |some (.arr sz v xs)=>bI (x.ev bp).cells? fun new=>bI (xs[i]?) fun e =>
    if v=ver/\new.length=n/\off+n<=e.cells.length/\(new.map ag.shut).all ag.plainCell=true then some (.any,iR M id (.arr sz ver (iR xs i (putCells e off (new.map ag.shut))))) else none
   |_=>none
  |_=>none
 | .BG sz p n a x =>
  match a.ev bp with
  | .ptr id off=>match nth M id with
   |some (.cells cs)=>bI (x.ev bp).cells? fun new =>
    match nth new p with
    |some (.slice .c0 [])=>if new.length=n/\off+n<=cs.length/\new.all ag.jg=true then some (.any,iR M id (.cells (mT cs off (iR new p (P7 sz M.length))))++[P6 sz]) else none
    |_=>none
   |_=>none
  |_=>none
 | .chk x=>match x.ev bp with
  | .ptr id off=>some (.ptr id off,M)
  | .jC cs=>some (.jC cs,M)
  | .func f caps=>some (.func f caps,M)
  | .jv id v i off=>some (.jv id v i off,M)
  |_=>none
 | .bin op x y=>bI (p7 op (x.ev bp) (y.ev bp)) fun v=>some (v,M)
 | .QG ks neg x y =>
  match x.ev bp,y.ev bp with
  | .agg a,.agg b=>bI (kY ks a b) fun e=>some (.bool (match neg with|true => !e|false=>e),M)
  |_,_=>none
 | .eqB neg x y=>match x.ev bp,y.ev bp with
  | .bool a,.bool b=>some (.bool (match neg with|true => !(a==b)|false=>a==b),M)
  |_,_=>none
 | .not x=>match x.ev bp with | .bool b=>some (.bool (!b),M)|_=>none
 | .neg x=>match x.ev bp with | .int k n=>some (.int k (k.wrap (0-n)),M)|_=>none
 | .conv k x=>match x.ev bp with | .int _ n=>some (.int k (k.wrap n),M)|_=>none
 | .same x=>match x.ev bp with | .str s=>some (.str s,M)|_=>none
 | .fn f caps=>some (.func f (caps.map (fX.ev bp)),M)
 | .Fx f firsts=>if (firsts.map fun x=>(x.ev bp).fT).all ag.plain then some (.qZ f (firsts.map fun x=>(x.ev bp).fT),M) else none
 | .BD x lo hi =>
  match x.ev bp with
  | .str s=>bI (gD bp s.length hi) fun h=>bI (gD bp 0 lo) fun l =>
   cq (0<=h/\h<=s.length/\0<=l/\l<=h) (some (.str ((s.take h.toNat).drop l.toNat),M))
  |_=>none
 | .uA sz x lo hi mx =>
  match x.ev bp with
  | .slice _ xs=>cq (wid xs sz) <| bI (gD bp xs.length hi) fun h=>bI (gD bp 0 lo) fun l =>
   match mx with
   |none=>cq (0<=h/\h<=xs.length/\0<=l/\l<=h) (some (.slice .sh ((xs.take h.toNat).drop l.toNat),M))
   |some m=>match m.ev bp with
    | .int _ m=>cq (0<=m/\m<=xs.length/\0<=h/\h<=m/\0<=l/\l<=h)
      (Bt (m==0) (some (.slice .c0 [],M)) (some (.slice .sh ((xs.take h.toNat).drop l.toNat),M)))
    |_=>none
  | .cD id v sz' al ah=>cq (sz'=sz) <| bI (gD bp (ah-al) hi) fun h=>bI (gD bp 0 lo) fun l =>
   match mx with
   |none=>cq (0<=h/\h<=(ah-al:Nat)/\0<=l/\l<=h) (Bt (l==h) (some (.slice .sh [],M)) (some (.cD id v sz (al+l.toNat) (al+h.toNat),M)))
   |some m=>match m.ev bp with
    | .int _ m=>cq (0<=m/\m<=(ah-al:Nat)/\0<=h/\h<=m/\0<=l/\l<=h)
      (Bt (m==0) (some (.slice .c0 [],M)) (Bt (l==h) (some (.slice .sh [],M)) (some (.cD id v sz (al+l.toNat) (al+h.toNat),M))))
    |_=>none
  |_=>none
 | .O0 sz x hi =>
  match x.ev bp,hi.ev bp with
  | .cD id v sz' lo ah,.int _ h=>cq (sz'=sz/\lo=0/\0<=h/\h<ah) (some (.cD id v sz 0 h.toNat,M))
  |_,_=>none
 | .yE off x=>match x.ev bp with
  | .ptr id o=>some (.ptr id (o+off),M)
  | .jC cs=>some (.jC (cs.drop off),M)
  | .jv id v i o=>some (.jv id v i (o+off),M)
  |_=>none
 | .DG off n x=>match x.ev bp with
  | .agg cs=>if off+n<=cs.length then some (.agg ((cs.drop off).take n),M) else none
  |_=>none
 | .DF off x=>match x.ev bp with
  | .agg cs=>bI (nth cs off) fun c=>some (c,M)
  |_=>none
 | .uh sz x i =>
  match x.ev bp,i.ev bp with
  | .slice _ xs,.int _ n=>cq (0<=n) (bI (xs[n.toNat]?) fun e=>if e.cells.length=sz then some (.jC e.cells,M) else none)
  | .cD id v sz' lo hi,.int _ n=>cq (0<=n/\n<(hi-lo:Nat)/\sz'=sz) (some (.jv id v (lo+n.toNat) 0,M))
  |_,_=>none
 | .Be n sz x i =>
  match x.ev bp,i.ev bp with
  | .jC cs,.int _ m=>cq (0<=m/\m<n/\n*sz<=cs.length) (some (.jC (cs.drop (m.toNat*sz)),M))
  | .ptr id off,.int _ m=>cq (0<=m/\m<n) (some (.ptr id (off+m.toNat*sz),M))
  |_,_=>none
 | .Bf x i =>
  match x.ev bp,i.ev bp with
  | .str s,.int _ n=>cq (0<=n) (bI (s[n.toNat]?) fun b=>some (.int .u8 b.toNat,M))
  |_,_=>none
 | .extract x i=>match x.ev bp with | .tuple vs=>bI (nth vs i) fun v=>some (v,M)|_=>none
 | .call f args=>aU call f (args.map fun x=>(x.ev bp).fT) M
 | .BV f args=>call f (args.map (fX.ev bp)) M
 | .BW f args=>match f.ev bp with
  | .func g caps=>call g (args.map (fX.ev bp)++caps) M
  |_=>none
 | .lj f args=>aU call f (args.map fun x=>((x.ev bp).rq M).fT) (qm M ((args.map (fX.ev bp)).flatMap ag.ids))
 | .wF f args=>Bz call f (args.map fun x=>(x.ev bp).fT) M
 | .xd sz zero x=>match x.ev bp with
  | .slice _ xs=>match xs with|[]=>some (.any,M)|_=>none
  | .cD id ver sz' lo hi=>match nth M id with
   |some (.arr sz0 v xs)=>if v=ver/\sz'=sz/\zero.length=sz/\zero.all ag.plainCell=true then some (.any,iR M id (.arr sz0 ver (xs.take lo++(List.replicate (hi-lo) (.agg zero)++xs.drop hi)))) else none
   |_=>none
  |_=>none
 | .sC f args=>match f.ev bp with
  | .func g caps=>aU call g ((args.map fun x=>(x.ev bp).fT)++caps) M
  | .qZ g fs=>aU call g (fs++args.map fun x=>(x.ev bp).fT) M
  | .raw v=>match v with
   | .func (.func g) ⟨[]⟩ ⟨[]⟩=>aU call g (args.map fun x=>(x.ev bp).fT) M
   |_=>none
  |_=>none
 | .VC x=>match x.ev bp with | .str s=>some (.int .i64 s.length,M)|_=>none
 | .z6 x=>match x.ev bp with
  | .slice _ xs=>some (.int .i64 xs.length,M)
  | .cD _ _ _ lo hi=>some (.int .i64 (hi-lo:Nat),M)
  |_=>none
 | .append sz bytes x y =>
  match x.ev bp,y.ev bp with
  | .slice tk xs,.slice _ ys =>
   cq (ct (xs.length+ys.length) bytes/\wid xs sz/\wid ys sz) (
    match tk with
    | .c0=>match xs with|[]=>some (.slice (.own M.length) ys,M++[.tick sz ys.length])|_=>none
    | .own k=>match nth M k with
     |some (.tick sz' n)=>cq (sz'=sz/\n=xs.length) (some (.slice (.own k) (xs++ys),iR M k (.tick sz (xs.length+ys.length))))
     |_=>none
    | .sh=>none)
  | .cD id ver sz' lo hi,.slice _ ys=>match nth M id with
   |some (.arr sz0 v xs)=>cq (v=ver/\sz'=sz/\lo=0/\hi<=xs.length/\ct (hi+ys.length) bytes/\wid (xs.take hi) sz/\wid ys sz)
     (Bt (ys.length==0) (some (.cD id ver sz lo hi,M)) (some (.cD id (ver+1) sz 0 (hi+ys.length),iR M id (.arr sz0 (ver+1) (xs.take hi++ys)))))
   |_=>none
  |_,_=>none
 | .Bq mx x y=>match x.ev bp,y.ev bp with
  | .int k a,.int _ b=>some (.int k (match mx with|true=>if b>a then b else a|false=>if b<a then b else a),M)
  |_,_=>none
 | .b2s x=>match x.ev bp with | .slice _ xs=>bI (bytesOf xs) fun l=>some (.str l,M)|_=>none
 | .mkMap=>some (.iC M.length,M++[.map [] []])
 | .look fk zero ok m k=>bI (mapOf M (m.ev bp)) fun e=>bI (xw fk (k.ev bp) e.1 e.2) fun r=>some (po zero ok r,M)
 | .gI fk m k v=>match m.ev bp with
  | .iC id=>match nth M id with
   |some (.map ks vs)=>bI (xy fk (k.ev bp) (v.ev bp) ks vs) fun e=>some (.any,iR M id (.map e.1 e.2))
   |_=>none
  |_=>none
 | .PC m=>bI (mapOf M (m.ev bp)) fun e=>some (.int .i64 e.1.length,M)
 | .Qg x=>match x.ev bp with | .str s=>some (.j7 M.length,M++[.nW s 0])|_=>none
 | .Gi it=>match it.ev bp with
  | .j7 id=>match nth M id with
   |some (.nW s pos)=>Bt (decide (pos<s.length))
     (some (.tuple [.bool true,.int .i64 pos,.int .i32 (Utf8.decode ⟨s.toArray⟩ pos).1],iR M id (.nW s (pos+(Utf8.decode ⟨s.toArray⟩ pos).2))))
     (some (.tuple [.bool false],M))
   |_=>none
  |_=>none
 | .mkS zero n=>match n.ev bp with
  | .int _ k=>cq (0<=k/\ct k.toNat (8*zero.length)/\zero.all ag.plainCell=true) (some (.slice .sh (List.replicate k.toNat (ag.agg zero).norm),M))
  |_=>none
 | .PO zero n=>match n.ev bp with
  | .int _ k=>cq (0<=k/\ct k.toNat (8*zero.length)/\zero.all ag.plainCell=true) (some (.cD M.length 0 zero.length 0 k.toNat,M++[.arr zero.length 0 (List.replicate k.toNat (ag.agg zero).norm)]))
  |_=>none
 | .xV sz bytes zero x n =>
  match x.ev bp,n.ev bp with
  | .slice .c0 [],.int _ k=>cq (0<=k/\ct k.toNat bytes/\zero.length=sz/\zero.all ag.plainCell=true)
    (Bt (k==0) (some (.slice .c0 [],M)) (some (.cD M.length 0 sz 0 k.toNat,M++[.arr sz 0 (List.replicate k.toNat (ag.agg zero).norm)])))
  | .cD id ver sz' lo hi,.int _ k=>match nth M id with
   |some (.arr sz0 v xs)=>cq (v=ver/\sz'=sz/\lo=0/\hi=xs.length/\0<=k/\ct (xs.length+k.toNat) bytes/\zero.length=sz/\zero.all ag.plainCell=true/\0<xs.length)
     (Bt (k==0) (some (.cD id ver sz' lo hi,M)) (some (.cD id (ver+1) sz 0 (xs.length+k.toNat),iR M id (.arr sz0 (ver+1) (xs++List.replicate k.toNat (ag.agg zero).norm)))))
   |_=>none
  |_,_=>none
 | .vY sz bytes x y =>
  match x.ev bp,y.ev bp with
  | .slice .c0 [],.slice _ ys=>cq (ct ys.length bytes/\wid ys sz) (some (.cD M.length 0 sz 0 ys.length,M++[.arr sz 0 ys]))
  |_,_=>none
 | .FE sz x y =>
  match x.ev bp,y.ev bp with
  | .slice .sh [],.slice _ ys=>cq (wid ys sz) (some (.int .i64 0,M))
  | .cD id ver sz' lo hi,.slice _ ys=>match nth M id with
   |some (.arr sz0 v xs)=>cq (v=ver/\sz'=sz/\wid ys sz/\0<xs.length)
     (some (.int .i64 (min ys.length (hi-lo):Nat),iR M id (.arr sz0 ver (xs.take lo++(ys.take (min ys.length (hi-lo))++xs.drop (lo+min ys.length (hi-lo)))))))
   |_=>none
  |_,_=>none
 | .OL sz=>some (.ptr (M.length+1) 0,M++[.arr sz 0 [],.cells [.cD M.length 0 sz 0 0]])
 | .iface t x=>match x.ev bp with
  | .ptr id off=>some (.ko t id off,M)
  |y=>bI (valOf y) fun v=>some (.raw (.iface t v),M)
 | .raise x=>match x.ev bp with
  | .raw v=>match v with
   | .iface t u=>some (.nI (.iface t u),M)
   |_=>none
  |_=>none
def rK(bp:Env)(dst:Option Nat)(v:ag):Env :=
 match dst with
 |some d=>(d,v)::bp
 |none=>bp
def ky.eF(bp:Env):ky->List Nat
 | .call _ args=>(args.map fun x=>(x.ev bp).fT).flatMap ag.ids
 | .sC f args=>match f.ev bp with
  | .func _ caps=>((args.map fun x=>(x.ev bp).fT)++caps).flatMap ag.ids
  | .qZ _ fs=>(fs++args.map fun x=>(x.ev bp).fT).flatMap ag.ids
  | .raw v=>match v with
   | .func (.func _) ⟨[]⟩ ⟨[]⟩=>(args.map fun x=>(x.ev bp).fT).flatMap ag.ids
   |_=>[]
  |_=>[]
 |_=>[]
def zq(bp:Env)(M M':aC):List Nat->Prop
 | []=>True
 |z::r=>(match ib bp z with
  | .ptr id _=>nth M' id=nth M id
  |_=>False)/\zq bp M M' r
noncomputable def qx(call:eR)(o:db)(bp:Env)(M:aC):Option (ag×aC) :=
 match o.xC with
 |true=>cq (o.op.eF bp=[]) (ei call bp M o.op)
 |false=>match o.grow with
  |false=>ei call bp M o.op
  |true=>bI (ei call bp M o.op) fun x=>cq (M <+: x.2\/(o.sep≠[]/\zq bp M x.2 o.sep)) (some x)
structure Out where
 e:abJ
 bp:Env
 mem:aC
def EX(c:Bool)(x:ag×aC)(k:Option Out):Option Out:=match x.1 with
 | .nI v=>match c with
  |true=>some ⟨.nI v,[],x.2⟩
  |false=>none
 |_=>k
def db.lets(o:db):Bool:=o.op.Rl&&o.stop
noncomputable def gv(call:eR):List db->Env->aC->Option Out
 | [],bp,M=>some ⟨.normal,bp,M⟩
 |o::r,bp,M =>
  match o.guard with
  |none=>bI (qx call o bp M) fun x=>EX o.lets x (gv call r (rK bp o.dst x.1) x.2)
  |some (t,want)=>match ib bp t with
   | .bool b=>Bt (b==want) (bI (qx call o bp M) fun x=>EX o.lets x (gv call r (rK bp o.dst x.1) x.2))
    (gv call r (rK bp o.dst (.tuple [])) M)
   | .tuple []=>gv call r (rK bp o.dst (.tuple [])) M
   |_=>none
def jq(bp:Env)(live:List Nat):Env:=live.map fun t=>(t,ib bp t)
def Out.rn(live:List Nat)(o:Out):Out:=match o.e with
 | .normal=>⟨.normal,jq o.bp live,o.mem⟩
 |_=>o
open Classical in
noncomputable def lim{α:Type}(F:Nat->Option α):Option α:=if h:∃n,(F n).isSome=true then F (Classical.choose h) else none
def uf(o:Out)(k:Env->aC->Option Out):Option Out:=match o.e with
 | .normal=>k o.bp o.mem
 |_=>some o
def xE(id:Nat)(o:Out):Out:=match o.e with
 | .exit i=>if i=id then ⟨.normal,o.bp,o.mem⟩ else o
 |_=>o
def iter(g:Nat->Nat->Nat)(f:Env->aC->Option Out)(live:List Nat):Nat->Env->aC->Option Out
 |0,_,_=>none
 |n+1,bp,M=>bI (f (jq bp live) M) fun o=>uf o fun e m=>iter g f live n (wE (g M.length m.length) m (jq e live)) (iV (g M.length m.length) m)
abbrev gL(a _b:Nat):Nat:=a
abbrev gR(_a b:Nat):Nat:=b
def Ly(M:aC)(t:Nat)(bp:Env):Env:=(t,(ib bp t).rq M)::bp
noncomputable def eO(call:eR):cG->Env->aC->Option Out
 | .skip,bp,M=>some ⟨.normal,bp,M⟩
 | .region ops _ live,bp,M=>bI (gv call ops bp M) fun o=>some (o.rn live)
 | .seq a b,bp,M=>bI (eO call a bp M) fun o=>uf o (eO call b)
 | .cond c x y,bp,M=>match c.ev bp with
  | .bool t=>Bt t (eO call x bp M) (eO call y bp M)
  |_=>none
 | .block id c,bp,M=>bI (eO call c bp M) fun o=>some (xE id o)
 | .loop live c,bp,M=>lim fun n=>iter gL (eO call c) live n bp M
 | .nG live c,bp,M=>lim fun n=>iter gR (eO call c) live n bp M
 | .rq t c,bp,M=>eO call c (Ly M t bp) (qm M (ib bp t).ids)
 | .exit id,bp,M=>some ⟨.exit id,bp,M⟩
 | .ret,bp,M=>some ⟨.ret,bp,M⟩
inductive sS where
 |tmp (t:Nat)
 |dK (t n:Nat)
 |abY (t:Nat)
structure eJ where
 nparams:Nat
 results:List sS
 body:cG
def EA(bp:Env)(M:aC):sS->Option ag
 | .tmp t=>some (ib bp t)
 | .dK t n=>match ib bp t with
  | .ptr id off=>match nth M id with
   |some (.cells cs)=>if off+n<=cs.length then some (.agg ((cs.drop off).take n)) else none
   |_=>none
  |_=>none
 | .abY t=>match ib bp t with
  | .ptr id off=>match nth M id with
   |some (.cells cs)=>nth cs off
   |_=>none
  |_=>none
def td(bp:Env)(M:aC):List sS->Option (List ag)
 | []=>some []
 |r::rs=>bI (EA bp M r) fun v=>bI (td bp M rs) fun l=>some (v::l)
def one:List ag->ag
 | [v]=>v
 |l => .tuple l
def eH:Nat->List ag->Env
 |_,[]=>[]
 |i,v::r=>(i,v)::eH (i+1) r
def finish(res:List sS)(bS:Nat)(o:Out):Option (ag×aC) :=
 match o.e with
 | .exit _=>none
 | .nI v=>some (.nI v,iV bS o.mem)
 |_=>bI (td o.bp o.mem res) fun l=>some ((one l).lF bS o.mem,iV bS o.mem)
structure zA where
 code:Nat->Option eJ
 oX:Nat->Option (List ag->aC->Option (ag×aC))
noncomputable def ka(T:zA):Nat->eR
 |0,f,args,M=>match T.oX f with
  |some g=>g args M
  |none=>none
 |n+1,f,args,M=>match T.oX f with
  |some g=>g args M
  |none=>match T.code f with
   |none=>none
   |some fn=>if args.length=fn.nparams then bI (eO (ka T n) fn.body (eH 0 args) M) (finish fn.results M.length) else none
noncomputable def aq(T:zA):eR:=fun f args M=>lim fun n=>ka T n f args M
theorem pT{α:Type}{F:Nat->Option α}(hm:∀n x,F n=some x->F (n+1)=some x){n:Nat}{x:α}(h:F n=some x):lim F=some x:=by
 have up:∀k n x,F n=some x->F (n+k)=some x:=by
  intro k;induction k<;>grind
 unfold lim;have hex:∃n,(F n).isSome=true:=⟨n,jK⟩;rw[dif_pos hex];have hc:=Classical.choose_spec hex;generalize Classical.choose _=m at *;obtain⟨y,hy⟩:=fz.1 hc;rcases Nat.le_total n m with hle|hle
 ·have:=up (m-n) n x h;rw[show n+(m-n)=m by omega] at this
  omega
 ·have:=up (n-m) m y hy;rw[show m+(n-m)=n by omega,h] at this
  rw[hy,this]
theorem uo{α:Type}{F:Nat->Option α}{x:α}(h:lim F=some x):∃n,F n=some x:=by
 unfold lim at h;split at h
 ·grind
 grind
def wW(C C':eR):Prop:=∀f a M x,C f a M=some x->C' f a M=some x
def bo{α β:Type}{x:Option α}{f:α->Option β}{y:β}(h:bI x f=some y):∃a,x=some a/\f a=some y:=by
 cases x<;>simp_all
def lI{α:Type}{b:Bool}{x y:Option α}{z:α}(h:Bt b x y=some z):(b=true/\x=some z)\/(b=false/\y=some z):=by
 cases b
 ·simp_all
 simp_all
theorem dq{α:Type}{p:Prop}{x:Option α}{z:α}(h:cq p x=some z):p/\x=some z:=by
 grind [cq]
theorem pQ{C:eR}{f:Nat}{vs:List ag}{M:aC}{x:ag×aC}(h:aU C f vs M=some x) :
  ∃a B y,C f a B=some y/\∀C':eR,C' f a B=some y->aU C' f vs M=some x:=by
 unfold aU at h;split at h
 ·obtain⟨B,hB,h⟩:=bo h;split at h
  ·obtain⟨y,hy,h⟩:=bo h;refine⟨_,B,y,hy,fun C' hC'=>?_⟩
   simp_all [aU]
  grind
 grind
theorem Mw{C:eR}{bp:Env}{M:aC}{o:ky}{x:ag×aC}(h:ei C bp M o=some x) :
  (∀C':eR,ei C' bp M o=some x)\/∃f a B y,C f a B=some y/\∀C':eR,C' f a B=some y->ei C' bp M o=some x:=by
 cases o
 case call f args =>
  simp only[ei] at h ⊢;obtain⟨a,B,y,h1,h2⟩:=pQ h;exact .inr ⟨f,a,B,y,h1,h2⟩
 case wF f args =>
  simp only[ei] at h ⊢;unfold Bz at h;split at h
  ·rename_i hc;obtain⟨y,hy,h⟩:=bo h;refine .inr ⟨f,_,[],y,hy,fun C' hC'=>?_⟩
   unfold Bz;rw[aZ hc,hC'];exact h
  ·cases h
 case BW f args =>
  simp only[ei] at h ⊢;split at h
  ·exact .inr ⟨_,_,_,_,h,fun _ h'=>h'⟩
  ·cases h
 case BV f args=>exact .inr ⟨f,_,_,_,h,fun _ h'=>h'⟩
 case lj f args =>
  simp only[ei] at h ⊢;obtain⟨a,B,y,h1,h2⟩:=pQ h;exact .inr ⟨f,a,B,y,h1,h2⟩
 case sC f args =>
  simp only[ei] at h ⊢;split at h<;>grind [pQ]
 all_goals exact .inl fun _=>h
theorem Q8{C C':eR}(hC:wW C C'){bp:Env}{M:aC}{o:ky}{x:ag×aC}(h:ei C bp M o=some x):ei C' bp M o=some x:=by
 rcases Mw h with h|⟨f,a,B,y,h1,h2⟩
 ·grind
 ·exact h2 _ (hC _ _ _ _ h1)
theorem sa{C:eR}{o:db}{bp:Env}{M:aC}{x:ag×aC}(h:qx C o bp M=some x) :
  (o.xC=true/\o.op.eF bp=[]/\ei C bp M o.op=some x)\/(o.xC=false/\o.grow=false/\ei C bp M o.op=some x)\/(o.xC=false/\o.grow=true/\(M <+: x.2\/(o.sep≠[]/\zq bp M x.2 o.sep))/\ei C bp M o.op=some x):=by
 unfold qx at h;split at h
 ·grind [dq]
 ·split at h
  ·exact .inr (.inl ⟨by assumption,by assumption,h⟩)
  ·obtain⟨y,hy,h⟩:=bo h
   grind [dq]
theorem Dh{C C':eR}(hC:wW C C'){bp:Env}{M:aC}{o:db}{x:ag×aC}(h:qx C o bp M=some x):qx C' o bp M=some x:=by
 grind [sa,qx,Q8]
theorem NK{c:Bool}{x:ag×aC}{k:Option Out}{o:Out}(h:EX c x k=some o):(x.1.jo=false/\k=some o)\/∃v,c=true/\x.1 = .nI v/\o=⟨.nI v,[],x.2⟩:=by
 obtain⟨x,M⟩:=x
 cases x<;>first
  |exact .inl ⟨rfl,h⟩
  |(cases c
    ·cases h
    ·injection h with h; grind)
def Mb{c:Bool}{x:ag×aC}{k:Option Out}(h:x.1.jo=false):EX c x k=k:=by
 obtain⟨x,M⟩:=x;cases x<;>first|rfl|cases h
theorem NL{c:Bool}{x:ag×aC}{k:Option Out}{v:Value}(hc:c=true)(h:x.1 = .nI v):EX c x k=some ⟨.nI v,[],x.2⟩:=by
 grind [EX]
theorem qe{C:eR}{o:db}{r:List db}{bp:Env}{M:aC}{x:Out}(h:gv C (o::r) bp M=some x) :
  (∃y,(∀t want,o.guard=some (t,want)->ib bp t = .bool want)/\qx C o bp M=some y/\((y.1.jo=false/\gv C r (rK bp o.dst y.1) y.2=some x)\/∃v,o.lets=true/\y.1 = .nI v/\x=⟨.nI v,[],y.2⟩)) \/
  (∃t want,o.guard=some (t,want)/\(ib bp t = .bool (!want)\/ib bp t = .tuple [])/\gv C r (rK bp o.dst (.tuple [])) M=some x):=by
 unfold gv at h;split at h
 ·rename_i hg;obtain⟨y,hy,h⟩:=bo h
  grind [NK]
 ·rename_i t want hg;split at h
  ·rename_i b hb;rcases lI h with ⟨h1,h2⟩|⟨h1,h2⟩
   ·obtain⟨y,hy,h2⟩:=bo h2
    grind [NK]
   ·refine .inr ⟨t,want,hg,.inl ?_,h2⟩;cases b<;>cases want<;>simp_all
  ·grind
  grind
def r9{C:eR}{o:db}{r:List db}{bp:Env}{M:aC}{y:ag×aC}(hg:∀t want,o.guard=some (t,want)->ib bp t = .bool want)
  (hy:qx C o bp M=some y):gv C (o::r) bp M=EX o.lets y (gv C r (rK bp o.dst y.1) y.2):=by
 rw[gv];split
 ·rw[hy]; rfl
 simp_all
theorem wC{C:eR}{o:db}{r:List db}{bp:Env}{M:aC}{t:Nat}{want:Bool}(hg:o.guard=some (t,want))
  (hb:ib bp t = .bool (!want)\/ib bp t = .tuple []):gv C (o::r) bp M=gv C r (rK bp o.dst (.tuple [])) M:=by
 rw[gv];simp[hg];rcases hb with hb|hb
 ·rw[hb]; cases want<;>simp
 grind
theorem tq{C C':eR}(hC:wW C C'):∀ {ops:List db} {bp:Env} {M:aC} {x:Out},gv C ops bp M=some x->gv C' ops bp M=some x
 | [],_,_,_,h=>h
 |o::r,bp,M,x,h=>by
  rcases qe h with ⟨y,h1,h2,h3⟩|⟨t,want,h1,h2,h3⟩
  ·rw[r9 h1 (Dh hC h2)];rcases h3 with ⟨h3,h4⟩|⟨v,h0,h3,rfl⟩
   ·rw[Mb h3]; exact tq hC h4
   grind [NL]
  ·rw[wC h1 h2]; exact tq hC h3
theorem ug{o:Out}{k:Env->aC->Option Out}{x:Out}(h:uf o k=some x):(o.e = .normal/\k o.bp o.mem=some x)\/(o.e ≠ .normal/\x=o):=by
 grind [uf]
theorem uS{o:Out}{k:Env->aC->Option Out}(h:o.e = .normal):uf o k=k o.bp o.mem:=by grind [uf]
theorem zR{o:Out}{k:Env->aC->Option Out}(h:o.e ≠ .normal):uf o k=some o:=by
 simp[uf]
theorem x9{o:Out}{k k':Env->aC->Option Out}{x:Out}(hk:∀bp M x,k bp M=some x->k' bp M=some x)(h:uf o k=some x):uf o k'=some x:=by
 grind [ug,uS,zR]
def yb{g0:Nat->Nat->Nat}{f g:Env->aC->Option Out}(hfg:∀bp M x,f bp M=some x->g bp M=some x)(live:List Nat):∀n {bp M x},iter g0 f live n bp M=some x->iter g0 g live n bp M=some x
 |0,_,_,_,h=>h
 |n+1,bp,M,x,h=>by
  rw[iter] at *;obtain⟨a,ha,h⟩:=bo h;rw[hfg _ _ _ ha];exact x9 (fun bp M x h=>yb hfg _ n h) h
def uU{g0:Nat->Nat->Nat}{f:Env->aC->Option Out}(live:List Nat):∀n {bp M x},iter g0 f live n bp M=some x->iter g0 f live (n+1) bp M=some x
 |0,_,_,_,h=>by cases h
 |n+1,bp,M,x,h=>by
  rw[iter] at h ⊢;obtain⟨a,ha,h⟩:=bo h;rw[ha];exact x9 (fun bp M x h=>uU _ n h) h
theorem jI{C C':eR}(hC:wW C C'):∀(c:cG){bp:Env}{M:aC}{x:Out},eO C c bp M=some x->eO C' c bp M=some x
 | .skip,_,_,_,h=>h
 | .exit _,_,_,_,h=>h
 | .ret,_,_,_,h=>h
 | .region _ d _,bp,M,x,h=>by
  simp[eO] at *;obtain⟨a,ha,h⟩:=bo h;rw[tq hC ha]; grind
 | .seq a b,bp,M,x,h=>by
  simp[eO] at *;obtain⟨o,ho,h⟩:=bo h;rw[jI hC a ho];exact x9 (fun bp M x=>jI hC b) h
 | .cond c a b,bp,M,x,h=>by
  simp[eO] at *;split
  ·rename_i t ht;simp[ht] at h;rcases lI h with ⟨rfl,h⟩|⟨rfl,h⟩
   ·exact jI hC a h
   ·exact jI hC b h
  grind
 | .block id c,bp,M,x,h=>by
  simp[eO] at *;obtain⟨o,ho,h⟩:=bo h;rw[jI hC c ho]; grind
 | .loop _ c,bp,M,x,h=>by
  obtain⟨n,hn⟩:=uo h;exact pT (fun n x=>uU _ n) (yb (fun bp M x=>jI hC c) _ n hn)
 | .nG _ c,bp,M,x,h=>by
  obtain⟨n,hn⟩:=uo h;exact pT (fun n x=>uU _ n) (yb (fun bp M x=>jI hC c) _ n hn)
 | .rq _ c,bp,M,x,h=>jI hC c h
theorem tF(T:zA):∀n,wW (ka T n) (ka T (n+1))
 |0,f,a,M,x,h=>by
  grind [ka]
 |n+1,f,a,M,x,h=>by
  rw[ka] at h ⊢;split
  ·grind
  ·rename_i hg;simp[hg] at h;split
   ·grind
   ·rename_i fn hf;simp only[hf] at h;split
    ·rename_i hl;rw[aZ hl] at h;obtain⟨o,ho,h⟩:=bo h;rw[jI (tF T n) _ ho]
     grind
    grind
def tE(T:zA){n m:Nat}(h:n<=m):wW (ka T n) (ka T m):=by
 obtain⟨k,rfl⟩:=Nat.exists_eq_add_of_le h;induction k with
 |zero=>exact fun _ _ _ _ h=>h
 |succ k ih=>exact fun f a M x hx=>tF T _ f a M x (ih dx f a M x hx)
theorem KJ(T:zA){bp:Env}{M:aC}{o:db}{x:ag×aC}(h:qx (aq T) o bp M=some x):∃n,qx (ka T n) o bp M=some x:=by
 have key:∀y,ei (aq T) bp M o.op=some y->∃n,ei (ka T n) bp M o.op=some y:=by
  intro y hy;rcases Mw hy with h|⟨f,a,B,z,h1,h2⟩
  ·simp_all
  ·obtain⟨n,hn⟩:=uo h1
   grind
 rcases sa h with ⟨hn,hi,h1⟩|⟨hn,hg,h1⟩|⟨hn,hg,hp,h1⟩<;>obtain⟨n,h2⟩:=key _ h1
 ·grind [qx]
 ·grind [qx]
 grind [qx]
def vZ(T:zA):∀ {ops:List db} {bp:Env} {M:aC} {x:Out},gv (aq T) ops bp M=some x->∃n,gv (ka T n) ops bp M=some x
 | [],_,_,_,h=>⟨0,h⟩
 |o::r,bp,M,x,h=>by
  rcases qe h with ⟨y,h1,h2,h3⟩|⟨t,want,h1,h2,h3⟩
  ·obtain⟨n,hn⟩:=KJ T h2;rcases h3 with ⟨h3,h4⟩|⟨v,h0,h3,rfl⟩
   ·obtain⟨m,hm⟩:=vZ T h4;refine⟨max n m,?_⟩;rw[r9 h1 (Dh (tE T (Nat.le_max_left n m)) hn),Mb h3];exact tq (tE T (Nat.le_max_right n m)) hm
   ·exact⟨n,by rw[r9 h1 hn]; exact NL h0 h3⟩
  ·obtain⟨m,hm⟩:=vZ T h3;exact⟨m,by rw[wC h1 h2]; exact hm⟩
def Bi(T:zA){g:Nat->Nat->Nat}{live:List Nat}{c:cG}(hc:∀ {bp:Env} {M:aC} {x:Out},eO (aq T) c bp M=some x->∃n,eO (ka T n) c bp M=some x){x:Out} :
  ∀k bp M,iter g (eO (aq T) c) live k bp M=some x->∃n,iter g (eO (ka T n) c) live k bp M=some x
 |0,bp,M,h=>by cases h
 |k+1,bp,M,h=>by
  rw[iter] at h;obtain⟨a,ha,h⟩:=bo h;obtain⟨n,hn⟩:=hc ha;rcases ug h with ⟨h1,h2⟩|⟨h1,h2⟩
  ·obtain⟨m,hm⟩:=Bi T hc k _ _ h2;refine⟨max n m,?_⟩;rw[iter,jI (tE T (Nat.le_max_left n m)) c hn,bO,uS h1];exact yb (fun bp M x=>jI (tE T (Nat.le_max_right n m)) c) live k hm
  ·exact⟨n,by rw[iter,hn,bO,zR h1,h2]⟩
def oG(T:zA):∀(c:cG){bp:Env}{M:aC}{x:Out},eO (aq T) c bp M=some x->∃n,eO (ka T n) c bp M=some x
 | .skip,_,_,_,h=>⟨0,h⟩
 | .exit _,_,_,_,h=>⟨0,h⟩
 | .ret,_,_,_,h=>⟨0,h⟩
 | .region ops d live,bp,M,x,h=>by
  simp only[eO] at *;obtain⟨a,ha,h⟩:=bo h;obtain⟨n,hn⟩:=vZ T ha;exact⟨n,by rw[hn]; exact h⟩
 | .seq a b,bp,M,x,h=>by
  simp only[eO] at *;obtain⟨o,ho,h⟩:=bo h;obtain⟨n,hn⟩:=oG T a ho;rcases ug h with ⟨h1,h2⟩|⟨h1,h2⟩
  ·obtain⟨m,hm⟩:=oG T b h2;refine⟨max n m,?_⟩;rw[jI (tE T (Nat.le_max_left n m)) a hn,bO,uS h1];exact jI (tE T (Nat.le_max_right n m)) b hm
  ·exact⟨n,by rw[hn,bO,zR h1,h2]⟩
 | .cond c a b,bp,M,x,h=>by
  simp only[eO] at *;split at h
  ·rename_i t ht;rcases lI h with ⟨rfl,h⟩|⟨rfl,h⟩
   ·obtain⟨n,hn⟩:=oG T a h; exact⟨n,hn⟩
   ·obtain⟨n,hn⟩:=oG T b h; exact⟨n,hn⟩
  ·cases h
 | .block id c,bp,M,x,h=>by
  simp only[eO] at *;obtain⟨o,ho,h⟩:=bo h;obtain⟨n,hn⟩:=oG T c ho;exact⟨n,by rw[hn]; exact h⟩
 | .loop live c,bp,M,x,h=>by
  simp only[eO] at *;obtain⟨k,hk⟩:=uo h;obtain⟨n,hn⟩:=Bi T (oG T c) k bp M hk;exact⟨n,pT (fun n x=>uU live n) hn⟩
 | .nG live c,bp,M,x,h=>by
  simp only[eO] at *;obtain⟨k,hk⟩:=uo h;obtain⟨n,hn⟩:=Bi T (oG T c) k bp M hk;exact⟨n,pT (fun n x=>uU live n) hn⟩
 | .rq _ c,bp,M,x,h=>oG T c h
def F6(g:Nat->Nat->Nat)(C:eR)(live:List Nat)(c:cG)(bp:Env)(M:aC) :
  lim (fun n=>iter g (eO C c) live n bp M)=bI (eO C c (jq bp live) M) fun o=>uf o fun e m=>lim fun n=>iter g (eO C c) live n (wE (g M.length m.length) m (jq e live)) (iV (g M.length m.length) m):=by
 apply Option.ext;intro x;constructor
 ·intro h;obtain⟨n,hn⟩:=uo h;cases n with
  |zero=>cases hn
  |succ n =>
   rw[iter] at hn;obtain⟨o,ho,hn⟩:=bo hn;rw[ho,bO];exact x9 (fun bp M x hx=>pT (fun n x=>uU live n) hx) hn
 ·intro h;obtain⟨o,ho,h⟩:=bo h;rcases ug h with ⟨h1,h2⟩|⟨h1,h2⟩
  ·obtain⟨n,hn⟩:=uo h2;refine pT (F:=fun n=>iter g (eO C c) live n bp M) (n:=n+1) (fun n x=>uU live n) ?_
   show iter g (eO C c) live (n+1) bp M=some x
   rw[iter,ho,bO,uS h1];exact hn
  ·refine pT (F:=fun n=>iter g (eO C c) live n bp M) (n:=1) (fun n x=>uU live n) ?_
   show iter g (eO C c) live 1 bp M=some x
   rw[iter,ho,bO,zR h1,h2]
def KD(C:eR)(live:List Nat)(c:cG)(bp:Env)(M:aC) :
  eO C (.loop live c) bp M=bI (eO C c (jq bp live) M) fun o=>uf o fun e m=>eO C (.loop live c) (wE M.length m (jq e live)) (iV M.length m):=F6 gL C live c bp M
def H6(C:eR)(live:List Nat)(c:cG)(bp:Env)(M:aC) :
  eO C (.nG live c) bp M=bI (eO C c (jq bp live) M) fun o=>uf o fun e m=>eO C (.nG live c) (wE m.length m (jq e live)) (iV m.length m):=F6 gR C live c bp M
def KB{T:zA}{f:Nat}{fn:eJ}{args:List ag}{M:aC}{x:ag×aC}(hp:T.oX f=none)(hc:T.code f=some fn)(hl:args.length=fn.nparams)
  (h:bI (eO (aq T) fn.body (eH 0 args) M) (finish fn.results M.length)=some x):aq T f args M=some x:=by
 obtain⟨o,hb,hf⟩:=bo h;obtain⟨n,hn⟩:=oG T fn.body hb;refine pT (n:=n+1) (fun n x h=>tF T n f args M x h) ?_
 rw[ka];simp only[hp,hc,aZ hl,hn,bO];exact hf
def fg{T:zA}{f:Nat}{g:List ag->aC->Option (ag×aC)}{args:List ag}{M:aC}{x:ag×aC}(hp:T.oX f=some g)(hg:g args M=some x):aq T f args M=some x:=by
 refine pT (n:=0) (fun n x h=>tF T n f args M x h) ?_
 rw[ka];simp only[hp,hg]
inductive K where
 |seq (c:cG)
 |block (id:Nat)
 |loop (live:List Nat) (n:Nat) (c:cG)
 |nG (live:List Nat) (c:cG)
noncomputable def kr(C:eR)(fn:List sS)(bS:Nat):List K->Out->Option (ag×aC)
 | [],o=>finish fn bS o
 | .seq c::k,o=>bI (uf o (eO C c)) (kr C fn bS k)
 | .block id::k,o=>kr C fn bS k (xE id o)
 | .loop live n c::k,o=>bI (uf o fun e m=>eO C (.loop live c) (wE n m (jq e live)) (iV n m)) (kr C fn bS k)
 | .nG live c::k,o=>bI (uf o fun e m=>eO C (.nG live c) (wE m.length m (jq e live)) (iV m.length m)) (kr C fn bS k)
noncomputable def eX(C:eR)(fn:List sS)(bS:Nat)(k:List K)(c:cG)(bp:Env)(M:aC):Option (ag×aC):=bI (eO C c bp M) (kr C fn bS k)
noncomputable def fJ(C:eR)(fn:List sS)(bS:Nat)(k:List K)(live:List Nat)(ops:List db)(bp:Env)(M:aC):Option (ag×aC) :=
 bI (gv C ops bp M) fun o=>kr C fn bS k (o.rn live)
noncomputable def lu(C:eR)(fn:List sS)(bS:Nat)(k:List K)(live:List Nat)(c:Bool)(dst:Option Nat)(r:List db)(bp:Env)(y:Option (ag×aC)):Option (ag×aC) :=
 bI y fun x=>bI (EX c x (gv C r (rK bp dst x.1) x.2)) fun o=>kr C fn bS k (o.rn live)
noncomputable def gK(C:eR)(fn:List sS)(bS:Nat)(k:List K)(live:List Nat)(g:ag)(want:Bool)(o:db)(r:List db)(bp:Env)(M:aC):Option (ag×aC) :=
 match g with
 | .bool b=>Bt (b==want) (lu C fn bS k live o.lets o.dst r bp (qx C o bp M)) (fJ C fn bS k live r (rK bp o.dst (.tuple [])) M)
 | .tuple []=>fJ C fn bS k live r (rK bp o.dst (.tuple [])) M
 |_=>none
noncomputable def eb(C:eR)(fn:List sS)(bS:Nat)(k:List K)(v:ag)(x y:cG)(bp:Env)(M:aC):Option (ag×aC) :=
 match v with
 | .bool t=>Bt t (eX C fn bS k x bp M) (eX C fn bS k y bp M)
 |_=>none
def pU{α β γ:Type}(x:Option α)(f:α->Option β)(g:β->Option γ):bI (bI x f) g=bI x fun a=>bI (f a) g:=by cases x<;>rfl
section
variable (C:eR) (fn:List sS) (bS:Nat) (k:List K) (bp:Env) (M:aC)
def RV:eX C fn bS k .skip bp M=kr C fn bS k ⟨.normal,bp,M⟩:=rfl
def RU(id:Nat):eX C fn bS k (.exit id) bp M=kr C fn bS k ⟨.exit id,bp,M⟩:=rfl
def Y0:eX C fn bS k .ret bp M=kr C fn bS k ⟨.ret,bp,M⟩:=rfl
def Y1(a b:cG):eX C fn bS k (.seq a b) bp M=eX C fn bS (.seq b::k) a bp M:=by
 unfold eX;rw[eO,pU];rfl
def Pb(id:Nat)(c:cG):eX C fn bS k (.block id c) bp M=eX C fn bS (.block id::k) c bp M:=by
 unfold eX;rw[eO,pU];rfl
def RT(c:fX)(x y:cG):eX C fn bS k (.cond c x y) bp M=eb C fn bS k (c.ev bp) x y bp M:=by
 unfold eX eb;rw[eO];cases c.ev bp<;>simp[eX]
def Lq(ops:List db)(d:Bool)(live:List Nat):eX C fn bS k (.region ops d live) bp M=fJ C fn bS k live ops bp M:=by
 unfold eX fJ;rw[eO,pU];rfl
def bG(live:List Nat)(c:cG):eX C fn bS k (.loop live c) bp M=eX C fn bS (.loop live M.length c::k) c (jq bp live) M:=by
 unfold eX;rw[KD,pU];rfl
def vz(live:List Nat)(c:cG):eX C fn bS k (.nG live c) bp M=eX C fn bS (.nG live c::k) c (jq bp live) M:=by
 unfold eX;rw[H6,pU];rfl
def YZ(t:Nat)(c:cG):eX C fn bS k (.rq t c) bp M=eX C fn bS k c (Ly M t bp) (qm M (ib bp t).ids):=rfl
def Vz(live:List Nat)(c:cG):kr C fn bS (.nG live c::k) ⟨.normal,bp,M⟩=eX C fn bS k (.nG live c) (wE M.length M (jq bp live)) (iV M.length M):=rfl
def Fg(live:List Nat)(c:cG)(i:Nat):kr C fn bS (.nG live c::k) ⟨.exit i,bp,M⟩=kr C fn bS k ⟨.exit i,bp,M⟩:=rfl
def Hn(live:List Nat)(c:cG):kr C fn bS (.nG live c::k) ⟨.ret,bp,M⟩=kr C fn bS k ⟨.ret,bp,M⟩:=rfl
def WI(live:List Nat):fJ C fn bS k live [] bp M=kr C fn bS k ⟨.normal,jq bp live,M⟩:=rfl
def P4(live:List Nat)(d:Option Nat)(op:ky)(g m:Bool)(s:List Nat)(st:Bool)(r:List db) :
  fJ C fn bS k live (⟨d,op,none,g,m,s,st⟩::r) bp M=lu C fn bS k live (db.lets ⟨d,op,none,g,m,s,st⟩) d r bp (qx C ⟨d,op,none,g,m,s,st⟩ bp M):=by
 unfold fJ lu;rw[gv,pU]
def P5(live:List Nat)(d:Option Nat)(op:ky)(t:Nat)(w g m:Bool)(s:List Nat)(st:Bool)(r:List db) :
  fJ C fn bS k live (⟨d,op,some (t,w),g,m,s,st⟩::r) bp M=gK C fn bS k live (ib bp t) w ⟨d,op,some (t,w),g,m,s,st⟩ r bp M:=by
 unfold fJ gK;rw[gv];simp only;generalize ib bp t=v;split
 ·rw[PS,pU]; rfl
 ·rfl
 ·rename_i h1 h2
  first
   |rfl
   |(split
     ·rename_i b; exact absurd rfl (h1 b)
     ·exact absurd rfl h2
     ·rfl)
def Wi(live:List Nat)(c:Bool)(d:Option Nat)(r:List db)(v:ag)(M':aC)(hv:v.jo=false):lu C fn bS k live c d r bp (some (v,M'))=fJ C fn bS k live r (rK bp d v) M':=by
 unfold lu;rw[bO,Mb hv]; rfl
def aaV(live:List Nat)(d:Option Nat)(r:List db)(v:Value)(M':aC):lu C fn bS k live true d r bp (some (.nI v,M'))=kr C fn bS k ⟨.nI v,[],M'⟩:=rfl
def PH(d g f:_)(a m s1 s:_):db.lets ⟨d,.call f a,g,m,s1,s,true⟩=true:=rfl
def LV(d g f:_)(a m s1 s:_):db.lets ⟨d,.sC f a,g,m,s1,s,true⟩=true:=rfl
def LW(d g f:_)(a m s1 s:_):db.lets ⟨d,.BW f a,g,m,s1,s,true⟩=true:=rfl
def LS(d g f:_)(a m s1 s:_):db.lets ⟨d,.BV f a,g,m,s1,s,true⟩=true:=rfl
def LU(d g f:_)(a m s1 s:_):db.lets ⟨d,.lj f a,g,m,s1,s,true⟩=true:=rfl
def LX(d g f:_)(m s1 s:_):db.lets ⟨d,.raise f,g,m,s1,s,true⟩=true:=rfl
def al9(live:List Nat)(o:db)(r:List db):gK C fn bS k live (.bool true) true o r bp M=lu C fn bS k live o.lets o.dst r bp (qx C o bp M):=rfl
def al6(live:List Nat)(o:db)(r:List db):gK C fn bS k live (.bool false) false o r bp M=lu C fn bS k live o.lets o.dst r bp (qx C o bp M):=rfl
def al8(live:List Nat)(o:db)(r:List db):gK C fn bS k live (.bool true) false o r bp M=fJ C fn bS k live r (rK bp o.dst (.tuple [])) M:=rfl
def al7(live:List Nat)(o:db)(r:List db):gK C fn bS k live (.bool false) true o r bp M=fJ C fn bS k live r (rK bp o.dst (.tuple [])) M:=rfl
def ama(live:List Nat)(w:Bool)(o:db)(r:List db):gK C fn bS k live (.tuple []) w o r bp M=fJ C fn bS k live r (rK bp o.dst (.tuple [])) M:=rfl
def Y8(x y:cG):eb C fn bS k (.bool true) x y bp M=eX C fn bS k x bp M:=rfl
def Y7(x y:cG):eb C fn bS k (.bool false) x y bp M=eX C fn bS k y bp M:=rfl
def ag2(c:cG):kr C fn bS (.seq c::k) ⟨.normal,bp,M⟩=eX C fn bS k c bp M:=rfl
def Jp(c:cG)(i:Nat):kr C fn bS (.seq c::k) ⟨.exit i,bp,M⟩=kr C fn bS k ⟨.exit i,bp,M⟩:=rfl
def LJ(c:cG):kr C fn bS (.seq c::k) ⟨.ret,bp,M⟩=kr C fn bS k ⟨.ret,bp,M⟩:=rfl
def LI(c:cG)(v:Value):kr C fn bS (.seq c::k) ⟨.nI v,bp,M⟩=kr C fn bS k ⟨.nI v,bp,M⟩:=rfl
def Hl(id:Nat)(v:Value):kr C fn bS (.block id::k) ⟨.nI v,bp,M⟩=kr C fn bS k ⟨.nI v,bp,M⟩:=rfl
def Jn(live:List Nat)(n:Nat)(c:cG)(v:Value):kr C fn bS (.loop live n c::k) ⟨.nI v,bp,M⟩=kr C fn bS k ⟨.nI v,bp,M⟩:=rfl
def Vy(id:Nat):kr C fn bS (.block id::k) ⟨.normal,bp,M⟩=kr C fn bS k ⟨.normal,bp,M⟩:=rfl
def Ff(id i:Nat):kr C fn bS (.block id::k) ⟨.exit i,bp,M⟩=if i=id then kr C fn bS k ⟨.normal,bp,M⟩ else kr C fn bS k ⟨.exit i,bp,M⟩:=by
 rw[kr]; simp only[xE]; split<;>rfl
def Hm(id:Nat):kr C fn bS (.block id::k) ⟨.ret,bp,M⟩=kr C fn bS k ⟨.ret,bp,M⟩:=rfl
def Zt(live:List Nat)(n:Nat)(c:cG):kr C fn bS (.loop live n c::k) ⟨.normal,bp,M⟩=eX C fn bS k (.loop live c) (wE n M (jq bp live)) (iV n M):=rfl
def Ho(live:List Nat)(n:Nat)(c:cG)(i:Nat):kr C fn bS (.loop live n c::k) ⟨.exit i,bp,M⟩=kr C fn bS k ⟨.exit i,bp,M⟩:=rfl
def Jo(live:List Nat)(n:Nat)(c:cG):kr C fn bS (.loop live n c::k) ⟨.ret,bp,M⟩=kr C fn bS k ⟨.ret,bp,M⟩:=rfl
def ag1(o:Out):kr C fn bS [] o=finish fn bS o:=rfl
end
def nt{q body:cG}(h:q=body)(C:eR)(fn:List sS)(bS:Nat)(k:List K)(bp:Env)(M:aC):eX C fn bS k q bp M=eX C fn bS k body bp M:=by rw[h]
def aB{T:zA}{f:Nat}{fn:eJ}{args:List ag}{M:aC}{x:ag×aC}(h:eX (aq T) fn.results M.length [] fn.body (eH 0 args) M=some x)
  (hp:T.oX f=none:=by exact rfl) (hc:T.code f=some fn:=by exact rfl) (hl:args.length=fn.nparams:=by exact rfl):aq T f args M=some x :=
 KB hp hc hl (by
  unfold eX at h;obtain⟨o,h1,h2⟩:=bo h;rw[h1]; exact h2)
end
section
open Go Go.RowKit
def bs(s:List UInt8):ByteArray:=⟨s.toArray⟩
structure J where
 f:Nat->Option Nat
 X:Nat->Nat->Prop
instance:CoeFun J (fun _=>Nat->Option Nat):=⟨J.f⟩
structure ow(j:J)(M:aC)(w:World)(b off:Nat):Prop where
 lt:b<w.heap.size
 ids:∀id,id<M.length->j id=some b->∃sz n,M[id]?=some (.tick sz n)/\off<n*sz
 nx:¬j.X b off
inductive fR(w:World)(iE:Nat->Nat->Prop):ag->Value->Prop where
 |bool (b:Bool):fR w iE (.bool b) (.bool b)
 |int (k:IntKind) (n:Int):fR w iE (.int k n) (.int k n)
 |str (s:List UInt8):fR w iE (.str s) (.string (bs s))
 |raw (v:Value) (h1:v.oneCell'=true):fR w iE (.raw v) v
 |slice (xs:List ag) (A:Option Addr) (len cap b off sz:Nat) (vs:Nat->Value) (hl:len=xs.length) (hc:len<=cap)
   (ha:xs≠[]->A=some ⟨b,off,none⟩) (hz:∀x,x∈xs->x.cells.length=sz)
   (hs:∀(i:Nat)(x:ag)(k:Nat)(c:ag),xs[i]?=some x->x.cells[k]?=some c->w.cell? ⟨b,off+(i*sz+k),none⟩=some (vs (i*sz+k))/\iE b (off+(i*sz+k)))
   (hr:∀(i:Nat)(x:ag)(k:Nat)(c:ag),xs[i]?=some x->x.cells[k]?=some c->fR w iE c (vs (i*sz+k))):fR w iE (.slice .sh xs) (.slice A len cap)
def Q3(j:J)(w:World)(k n t:Nat)(x:Bool)(v:Value):Prop :=
 (j k=none/\n=0/\∃A,v = .slice A 0 0/\(x=true->A=none)) \/
 ∃b cap vs,0<n/\j k=some b/\v = .slice (some ⟨b,0,none⟩) n cap/\w.heap[b]?=some (.cells vs t (0,0))/\cap<=vs.size/\n<=cap
def H0(j:J)(w:World)(k sz n:Nat)(v:Value):Prop :=
 (j k=none/\n=0/\∃A,v = .slice A 0 0) \/
 ∃b cap vs t,j k=some b/\v = .slice (some ⟨b,0,none⟩) n cap/\w.heap[b]?=some (.cells vs t (0,0))/\cap*sz<=vs.size/\n<=cap
def CD(w:World)(iE:Nat->Nat->Prop)(x:ag)(v:Value):Prop :=
 match x with
 | .agg cs=>∃us:Array Value,v = .agg us/\cs.length=us.size/\∀(i:Nat)(c:ag)(u:Value),cs[i]?=some c->us[i]?=some u->fR w iE c u
 |x=>fR w iE x v
inductive gn(j:J)(M:aC)(w:World):ag->Value->Prop where
 |plain {x:ag} {v:Value} (h:fR w (ow j M w) x v):gn j M w x v
 |c0 (A:Option Addr):gn j M w (.slice .c0 []) (.slice A 0 0)
 |own {k:Nat} {xs:List ag} {v:Value} {sz n:Nat} (hk:M[k]?=some (.tick sz n)) (hn:xs.length<=n) (h:fR w (ow j M w) (.slice .sh xs) v)
   (ht:xs.length=n->H0 j w k sz n v):gn j M w (.slice (.own k) xs) v
 |agg {cs:List ag} {vs:Array Value} (hl:cs.length=vs.size) (h:∀(i:Nat)(c:ag)(v:Value),cs[i]?=some c->vs[i]?=some v->gn j M w c v):gn j M w (.agg cs) (.agg vs)
 |tuple {cs:List ag} {vs:Array Value} (hl:cs.length=vs.size) (h:∀(i:Nat)(c:ag)(v:Value),cs[i]?=some c->vs[i]?=some v->gn j M w c v):gn j M w (.tuple cs) (.tuple vs)
 |ptr {id off b:Nat} (hid:id<M.length) (hc:∃cs,M[id]?=some (.cells cs)) (hj:j id=some b):gn j M w (.ptr id off) (.pointer (some ⟨b,off,none⟩))
 |jC {cs:List ag} {b off:Nat} {vs:Nat->Value} (h:∀(k:Nat)(c:ag),cs[k]?=some c->w.cell? ⟨b,off+k,none⟩=some (vs k)/\ow j M w b (off+k)/\fR w (ow j M w) c (vs k)) :
   gn j M w (.jC cs) (.pointer (some ⟨b,off,none⟩))
 |func {f:Nat} {caps:List ag} {vs:Array Value} (hl:caps.length=vs.size) (h:∀(i:Nat)(c:ag)(v:Value),caps[i]?=some c->vs[i]?=some v->gn j M w c v) :
   gn j M w (.func f caps) (.func (.func f) #[] vs)
 |iC {id b:Nat} (hc:∃ks vs,M[id]?=some (.map ks vs)) (hj:j id=some b):gn j M w (.iC id) (.map (some b))
 |j7 {id b:Nat} (hc:∃s p,M[id]?=some (.nW s p)) (hj:j id=some b):gn j M w (.j7 id) (.pointer (some ⟨b,0,none⟩))
 |ki {ks vs:List ag} {b:Nat} {es:Array MapEntry} {clock:Nat} (hb:b<w.heap.size) (hf:∀i,i<M.length->j i≠some b) (hx:∀off,¬j.X b off) (hw:w.heap[b]?=some (.map es clock)) (hk:ks.length=es.size) (hv:vs.length=es.size)
   (hks:∀(i:Nat)(k:ag)(e:MapEntry),ks[i]?=some k->es[i]?=some e->fR w (ow j M w) k e.key) (hvs:∀(i:Nat)(v:ag)(e:MapEntry),vs[i]?=some v->es[i]?=some e->CD w (ow j M w) v e.val) :
   gn j M w (.ki ks vs) (.map (some b))
 |cD {id ver sz lo hi:Nat} {v:Value} (h0:(∃b off c,v = .slice (some ⟨b,off,none⟩) (hi-lo) c/\hi-lo<=c)\/hi-lo=0/\∃A,v = .slice A 0 0) (hid:id<M.length) (hM:∀bx,M[id]?=some bx->bx.loose=true)
   (hv:∀sz' v' xs,M[id]?=some (.arr sz' v' xs)->ver<=v'/\(v'=ver->sz'=sz/\lo<=hi/\hi<=xs.length/\((xs=[]/\j id=none/\∃A,v = .slice A 0 0)\/∃b cap vs t,j id=some b/\v = .slice (some ⟨b,lo*sz,none⟩) (hi-lo) cap/\hi-lo<=cap/\w.heap[b]?=some (.cells vs t (0,0))/\(lo+cap)*sz<=vs.size))) :
   gn j M w (.cD id ver sz lo hi) v
 |jv {id ver i off:Nat} {v:Value} (h0:∃b o,v = .pointer (some ⟨b,o,none⟩)) (hid:id<M.length) (hM:∀bx,M[id]?=some bx->bx.loose=true)
   (hv:∀sz v' xs,M[id]?=some (.arr sz v' xs)->ver<=v'/\(v'=ver->i<xs.length/\∃b,j id=some b/\v = .pointer (some ⟨b,i*sz+off,none⟩))) :
   gn j M w (.jv id ver i off) v
 |qZ {f:Nat} {fs:List ag} {vs:Array Value} (hl:fs.length=vs.size) (h:∀(i:Nat)(c:ag)(v:Value),fs[i]?=some c->vs[i]?=some v->CD w (ow j M w) c v):gn j M w (.qZ f fs) (.func (.func f) vs #[])
 |ko {t id off b:Nat} (hc:∃cs,M[id]?=some (.cells cs)) (hj:j id=some b):gn j M w (.ko t id off) (.iface t (.pointer (some ⟨b,off,none⟩)))
 |any (v:Value):gn j M w .any v
def RC(j:J)(M:aC)(w:World)(cs:List ag)(vs:Array Value):Prop :=
 cs.length=vs.size/\∀(i:Nat)(c:ag)(v:Value),cs[i]?=some c->vs[i]?=some v->gn j M w c v
def Holds(j:J)(M:aC)(w:World)(b:Nat):cL->Prop
 | .cells cs=>∃vs t,w.heap[b]?=some (.cells vs t (0,0))/\RC j M w cs vs
 | .tick _ _=>True
 | .map ks vs=>∃es clock,w.heap[b]?=some (.map es clock)/\ks.length=es.size/\vs.length=es.size/\(∀(i:Nat)(k:ag)(e:MapEntry),ks[i]?=some k->es[i]?=some e->fR w (ow j M w) k e.key) /\
   ∀(i:Nat)(v:ag)(e:MapEntry),vs[i]?=some v->es[i]?=some e->gn j M w v e.val
 | .nW s pos=>w.heap[b]?=some (.stringIter (bs s) pos)
 | .arr _ _ _=>True
 | .vW=>True
structure Rel(j:J)(M:aC)(w:World):Prop where
 inj:∀i i' b,i<M.length->i'<M.length->j i=some b->j i'=some b->i=i'
 lt:∀i b,i<M.length->j i=some b->b<w.heap.size
 fix:∀i bx,M[i]?=some bx->bx.fixed=true->∃b,j i=some b/\Holds j M w b bx
 tick:∀i sz n b,M[i]?=some (.tick sz n)->j i=some b->∃vs t,w.heap[b]?=some (.cells vs t (0,0))
 arr:∀i sz ver xs,M[i]?=some (.arr sz ver xs)->(xs=[]/\j i=none)\/∃b vs t,j i=some b/\w.heap[b]?=some (.cells vs t (0,0))/\xs.length*sz<=vs.size/\(∀x,x∈xs->x.cells.length=sz) /\
  ∀(q:Nat)(x:ag)(k:Nat)(c:ag),xs[q]?=some x->x.cells[k]?=some c->∃v,vs[q*sz+k]?=some v/\fR w (ow j M w) c v
 vk:∀i b,i<M.length->j i=some b->∀off,¬j.X b off
 AF:∀b off,j.X b off->b<w.heap.size
def Rel.box{j:J}{M:aC}{w:World}(h:Rel j M w)(i:Nat)(cs:List ag)(hi:M[i]?=some (.cells cs)):∃b vs t,j i=some b/\w.heap[b]?=some (.cells vs t (0,0))/\cs.length=vs.size /\
  ∀(q:Nat)(c:ag)(v:Value),cs[q]?=some c->vs[q]?=some v->gn j M w c v:=by
 obtain⟨b,h1,vs,t,h2,h3⟩:=h.fix i _ hi rfl;exact⟨b,vs,t,h1,h2,h3.1,h3.2⟩
structure Ext(j:J)(M:aC)(w:World)(j':J)(M':aC)(w':World):Prop where
 len:M.length<=M'.length
 size:w.heap.size<=w'.heap.size
 os:w'.os=w.os
 tape:w'.tape=w.tape
 output:w'.output=w.output
 X:j'.X=j.X
 fix:∀i bx,M[i]?=some bx->bx.fixed=true->j' i=j i/\∃bx',M'[i]?=some bx'/\bx'.tag=bx.tag
 tick:∀i sz n,M[i]?=some (.tick sz n)->∃n',n<=n'/\M'[i]?=some (.tick sz n') /\
  (n'=n->j' i=j i/\∀b vs t,j i=some b->w.heap[b]?=some (.cells vs t (0,0))->∃vs',w'.heap[b]?=some (.cells vs' t (0,0))/\vs'.size=vs.size)
 arr:∀i sz ver xs,M[i]?=some (.arr sz ver xs)->(∃n',M'[i]?=some (.tick sz n'))\/∃ver' xs',M'[i]?=some (.arr sz ver' xs')/\ver<=ver' /\
  (ver'=ver->j' i=j i/\xs'.length=xs.length/\∀b vs t,j i=some b->w.heap[b]?=some (.cells vs t (0,0))->∃vs',w'.heap[b]?=some (.cells vs' t (0,0))/\vs'.size=vs.size)
 tags:∀(b:Nat)(vs:Array Value)(t:TypeId)(fr:Nat×Nat),w.heap[b]?=some (.cells vs t fr)->∃vs' fr',w'.heap[b]?=some (.cells vs' t fr')/\vs'.size=vs.size
 iE:∀b off,ow j M w b off->ow j' M' w' b off/\w'.cell? ⟨b,off,none⟩=w.cell? ⟨b,off,none⟩
 ur:∀b,b<w.heap.size->(∀i,i<M.length->j i≠some b)->w'.heap[b]?=w.heap[b]?/\∀i,i<M'.length->j' i≠some b
def BI{a b:cL}(h:b.tag=a.tag)(ha:a.fixed=true):b.fixed=true:=by
 cases a<;>cases b<;>simp[cL.tag,cL.fixed] at * <;> omega
def GG{b:cL}(h:b.tag=0):∃cs,b = .cells cs:=by cases b<;>simp[cL.tag] at h; simp
def abA{b:cL}(h:b.tag=1):∃ks vs,b = .map ks vs:=by cases b<;>simp[cL.tag] at h; simp
def Qn{b:cL}(h:b.tag=2):∃s p,b = .nW s p:=by cases b<;>simp[cL.tag] at h; simp
theorem fR.mono{w w':World}{iE saf':Nat->Nat->Prop}(h:∀b off,iE b off->saf' b off/\w'.cell? ⟨b,off,none⟩=w.cell? ⟨b,off,none⟩)
  {x:ag} {v:Value} (hr:fR w iE x v):fR w' saf' x v:=by
 induction hr with
 |bool b=>simp[bool]
 |int k n=>exact .int k n
 |str s=>exact .str s
 |raw v h1=>exact .raw v h1
 |slice xs A len cap b off sz vs hl hc ha hz hs _ ih =>
  refine .slice _ A _ _ b _ _ _ hl hc ha hz (fun i x k c hx hk=>?_) ih
  grind
def CD.mono{w w':World}{iE saf':Nat->Nat->Prop}(h:∀b off,iE b off->saf' b off/\w'.cell? ⟨b,off,none⟩=w.cell? ⟨b,off,none⟩)
  {x:ag} {v:Value} (hr:CD w iE x v):CD w' saf' x v:=by
 by_cases hag:∃cs,x = .agg cs
 ·obtain⟨cs,rfl⟩:=hag;obtain⟨us,h1,h2,h3⟩:=hr;exact⟨us,h1,h2,fun i c u hc hu=>(h3 i c u hc hu).mono h⟩
 ·cases x<;>first|exact absurd ⟨_,rfl⟩ hag|exact fR.mono h hr
section
variable {j j' j'':J} {M M' M'':aC} {w w' w'':World}
def Q3.mono{k n t:Nat}{x:Bool}{v:Value}(h:Q3 j w k n t x v)(hj:j' k=j k)
  (hb:∀b vs t,j k=some b->w.heap[b]?=some (.cells vs t (0,0))->∃vs',w'.heap[b]?=some (.cells vs' t (0,0))/\vs'.size=vs.size):Q3 j' w' k n t x v:=by
 rcases h with ⟨h1,h2,h3⟩|⟨b,cap,vs,h0,h1,h2,h3,h4,h5⟩
 ·exact .inl ⟨hj.trans h1,h2,h3⟩
 ·obtain⟨vs',h6,h7⟩:=hb b _ t h1 h3;exact .inr ⟨b,cap,vs',h0,hj.trans h1,h2,h6,aJ,h5⟩
def H0.mono{k sz n:Nat}{v:Value}(h:H0 j w k sz n v)(hj:j' k=j k)
  (hb:∀b vs t,j k=some b->w.heap[b]?=some (.cells vs t (0,0))->∃vs',w'.heap[b]?=some (.cells vs' t (0,0))/\vs'.size=vs.size):H0 j' w' k sz n v:=by
 rcases h with ⟨h1,h2,h3⟩|⟨b,cap,vs,t,h1,h2,h3,h4,h5⟩
 ·exact .inl ⟨hj.trans h1,h2,h3⟩
 ·obtain⟨vs',h6,h7⟩:=hb b _ t h1 h3;exact .inr ⟨b,cap,vs',t,hj.trans h1,h2,h6,aJ,h5⟩
theorem Ext.loose(hx:Ext j M w j' M' w'){id:Nat}(hid:id<M.length)(hM:∀bx,M[id]?=some bx->bx.loose=true):(∀bx,M'[id]?=some bx->bx.loose=true) /\
  ∀sz v' xs,M'[id]?=some (.arr sz v' xs)->∃v0 xs0,M[id]?=some (.arr sz v0 xs0)/\v0<=v' /\
   (v'=v0->j' id=j id/\xs.length=xs0.length/\∀b vs t,j id=some b->w.heap[b]?=some (.cells vs t (0,0))->∃vs',w'.heap[b]?=some (.cells vs' t (0,0))/\vs'.size=vs.size):=by
 have h0:=ai hid;have hf:=hM _ h0;generalize M[id]=bx at h0 hf;cases bx with
 |cells=>cases hf
 |map=>cases hf
 |nW=>cases hf
 |vW=>cases hf
 |tick sz n =>
  obtain⟨n',h1,h2,h3⟩:=hx.tick _ _ _ h0;refine⟨fun bx hb=>?_,fun sz v' xs h=>?_⟩
  ·rw[h2] at hb; cases hb; rfl
  grind
 |arr sz v xs =>
  rcases hx.arr _ _ _ _ h0 with ⟨n',h2⟩|⟨v1,xs1,h2,h3,h4⟩
  ·refine⟨fun bx hb=>?_,fun sz v' xs h=>?_⟩
   ·rw[h2] at hb; cases hb; rfl
   grind
  ·refine⟨fun bx hb=>?_,fun sz' v' xs' h=>?_⟩
   ·rw[h2] at hb; cases hb; rfl
   grind
theorem gn.mono(hx:Ext j M w j' M' w'){x:ag}{v:Value}(hr:gn j M w x v):gn j' M' w' x v:=by
 induction hr with
 |plain h=>exact .plain (h.mono hx.iE)
 |c0 A=>exact .c0 A
 |own hk hn h ht =>
  obtain⟨n',h1,h2,h3⟩:=hx.tick _ _ _ hk;refine .own h2 aJ (h.mono hx.iE) (fun he=>?_)
  have:n'=_:=Nat.le_antisymm aJ h1;obtain⟨h4,h5⟩:=h3 this;subst this;exact(ht he).mono h4 h5
 |agg hl _ ih=>exact .agg hl ih
 |tuple hl _ ih=>exact .tuple hl ih
 |ptr hid hc hj =>
  obtain⟨cs,hc⟩:=hc;obtain⟨h1,bx,h2,h3⟩:=hx.fix _ _ hc rfl;obtain⟨cs',rfl⟩:=GG h3;exact .ptr (bu hid hx.len) ⟨_,h2⟩ (h1.trans hj)
 | @jC cs b off vs h =>
  refine .jC (vs:=vs) fun k c hk=>?_
  obtain⟨h1,h2,h3⟩:=h k c hk;obtain⟨h4,h5⟩:=hx.iE _ _ h2;exact⟨h5.trans h1,h4,h3.mono hx.iE⟩
 |func hl _ ih=>exact .func hl ih
 |iC hc hj =>
  obtain⟨ks,vs,hc⟩:=hc;obtain⟨h1,bx,h2,h3⟩:=hx.fix _ _ hc rfl;obtain⟨ks',vs',rfl⟩:=abA h3;exact .iC ⟨_,_,h2⟩ (h1.trans hj)
 |j7 hc hj =>
  obtain⟨ks,vs,hc⟩:=hc;obtain⟨h1,bx,h2,h3⟩:=hx.fix _ _ hc rfl;obtain⟨ks',vs',rfl⟩:=Qn h3;exact .j7 ⟨_,_,h2⟩ (h1.trans hj)
 |ki hb hf hxx hw hk hv hks hvs =>
  obtain⟨h1,h2⟩:=hx.ur _ hb hf;exact .ki (bu hb hx.size) h2 (by rw[hx.X]; omega) (h1.trans hw) hk hv (fun i k e h1 h2=>(hks i k e h1 h2).mono hx.iE) (fun i k e h1 h2=>(hvs i k e h1 h2).mono hx.iE)
 |cD hs hid hM hv =>
  obtain⟨g1,g2⟩:=hx.loose hid hM;refine .cD hs (bu hid hx.len) g1 fun sz v' xs h=>?_
  obtain⟨v0,xs0,h0,h1,h2⟩:=g2 sz v' xs h;obtain⟨h3,h4⟩:=hv sz v0 xs0 h0;refine⟨aJ,fun he=>?_⟩
  obtain⟨h5,h6,h7⟩:=h2 aJ;obtain⟨l0,l1,l2,⟨rfl,l3,l4⟩|⟨b,cap,vs,t,l3,l4,l5,l6,l7⟩⟩:=h4 aJ
  ·exact⟨l0,l1,aJ,.inl ⟨dH aJ,h5.trans l3,l4⟩⟩
  obtain⟨vs',l8,l9⟩:=h7 b vs t l3 l6;exact⟨l0,l1,aJ,.inr ⟨b,cap,vs',t,h5.trans l3,l4,l5,l8,aJ⟩⟩
 |jv hs hid hM hv =>
  obtain⟨g1,g2⟩:=hx.loose hid hM;refine .jv hs (bu hid hx.len) g1 fun sz v' xs h=>?_
  grind
 |qZ hl h=>exact .qZ hl fun i c v hc hv=>(h i c v hc hv).mono hx.iE
 |ko hc hj =>
  obtain⟨cs,hc⟩:=hc;obtain⟨h1,bx,h2,h3⟩:=hx.fix _ _ hc rfl;obtain⟨cs',rfl⟩:=GG h3;exact .ko ⟨_,h2⟩ (h1.trans hj)
 |any v=>exact .any v
def Holds.mono{b:Nat}{bx:cL}(hx:Ext j M w j' M' w')(hb:w'.heap[b]?=w.heap[b]?)(h:Holds j M w b bx):Holds j' M' w' b bx:=by
 cases bx with
 |cells cs =>
  obtain⟨vs,t,h1,h2,h3⟩:=h;exact⟨vs,t,hb.trans h1,h2,fun i c v hc hv=>(h3 i c v hc hv).mono hx⟩
 |tick=>trivial
 |map ks vs =>
  obtain⟨es,clock,h1,h2,h3,h4,h5⟩:=h;exact⟨es,clock,hb.trans h1,h2,h3,fun i k e hk he=>(h4 i k e hk he).mono hx.iE,fun i k e hk he=>(h5 i k e hk he).mono hx⟩
 |nW s pos=>exact hb.trans h
 |arr=>trivial
 |vW=>trivial
theorem Holds.lt{b:Nat}{bx:cL}(h:Holds j M w b bx)(hf:bx.fixed=true):∃o,w.heap[b]?=some o:=by
 cases bx with
 |cells cs=>obtain⟨vs,t,h1,_⟩:=h; grind
 |tick=>cases hf
 |map ks vs=>obtain⟨es,clock,h1,_⟩:=h; grind
 |nW s pos=>exact⟨_,h⟩
 |arr=>cases hf
 |vW=>cases hf
def Ext.refl(j:J)(M:aC)(w:World):Ext j M w j M w where
 len:=au _
 size:=au _
 os:=rfl
 tape:=rfl
 output:=rfl
 X:=rfl
 fix:=fun i bx h _=>⟨rfl,bx,h,rfl⟩
 tick:=fun i sz n h=>⟨n,au _,h,fun _=>⟨rfl,fun b vs t _ h=>⟨vs,h,rfl⟩⟩⟩
 arr:=fun i sz v xs h => .inr ⟨v,xs,h,au _,fun _=>⟨rfl,rfl,fun b vs t _ h=>⟨vs,h,rfl⟩⟩⟩
 tags:=fun b vs t fr h=>⟨vs,fr,h,rfl⟩
 iE:=fun b off h=>⟨h,rfl⟩
 ur:=fun b hb h=>⟨rfl,h⟩
theorem Ext.trans(h:Ext j M w j' M' w')(k:Ext j' M' w' j'' M'' w''):Ext j M w j'' M'' w'' where
 len:=aY h.len k.len
 size:=aY h.size k.size
 os:=k.os.trans h.os
 tape:=k.tape.trans h.tape
 output:=k.output.trans h.output
 X:=k.X.trans h.X
 fix:=fun i bx hi hf=>by
  obtain⟨h1,bx',h2,h3⟩:=h.fix i bx hi hf;have hf':bx'.fixed=true:=BI h3 hf;obtain⟨h4,bx'',h5,h6⟩:=k.fix i bx' h2 hf'
  grind
 tick:=fun i sz n hi=>by
  obtain⟨n1,a1,a2,a3⟩:=h.tick i sz n hi;obtain⟨n2,b1,b2,b3⟩:=k.tick i sz n1 a2
  grind
 arr:=fun i sz v xs hi=>by
  rcases h.arr i sz v xs hi with ⟨n1,a1⟩|⟨v1,xs1,a1,a2,a3⟩
  ·obtain⟨n2,_,b2,_⟩:=k.tick i sz n1 a1
   grind
  ·rcases k.arr i sz v1 xs1 a1 with ⟨n2,b1⟩|⟨v2,xs2,b1,b2,b3⟩
   ·grind
   grind
 tags:=fun b vs t fr hb=>by
  obtain⟨vs1,fr1,h1,h2⟩:=h.tags b vs t fr hb;obtain⟨vs2,fr2,h3,h4⟩:=k.tags b vs1 t fr1 h1
  grind
 iE:=fun b off hs=>by
  obtain⟨h1,h2⟩:=h.iE b off hs;obtain⟨h3,h4⟩:=k.iE b off h1
  grind
 ur:=fun b hb hn=>by
  obtain⟨h1,h2⟩:=h.ur b hb hn;obtain⟨h3,h4⟩:=k.ur b (bu hb h.size) h2
  grind
theorem Ext.grow(hsz:w.heap.size<=w'.heap.size)(hos:w'.os=w.os)(ht:w'.tape=w.tape)(ho:w'.output=w.output)
  (hb:∀b,b<w.heap.size->w'.heap[b]?=w.heap[b]?):Ext j M w j M w' where
 len:=au _
 size:=hsz
 os:=hos
 tape:=ht
 output:=ho
 X:=rfl
 fix:=fun i bx h _=>⟨rfl,bx,h,rfl⟩
 tick:=fun i sz n h=>⟨n,au _,h,fun _=>⟨rfl,fun b vs t _ hv=>by
  grind⟩⟩
 arr:=fun i sz v xs h => .inr ⟨v,xs,h,au _,fun _=>⟨rfl,rfl,fun b vs t _ hv=>by
  grind⟩⟩
 tags:=fun b vs t fr h=>by
  grind
 iE:=fun b off h=>⟨⟨bu h.1 hsz,h.2,h.3⟩,World.cell?_of_block (hb b h.1)⟩
 ur:=fun b cJ h=>⟨hb b cJ,h⟩
theorem Rel.grow(hr:Rel j M w)(hsz:w.heap.size<=w'.heap.size)(hos:w'.os=w.os)(ht:w'.tape=w.tape)(ho:w'.output=w.output)
  (hb:∀b,b<w.heap.size->w'.heap[b]?=w.heap[b]?):Rel j M w' where
 inj:=hr.inj
 lt:=fun i b hi h=>bu (hr.lt i b hi h) hsz
 fix:=fun i bx h hf=>by
  obtain⟨b,h1,h2⟩:=hr.fix i _ h hf;have hi  := (aj.1 h).1;exact⟨b,h1,h2.mono (Ext.grow hsz hos ht ho hb) (hb b (hr.lt i b hi h1))⟩
 tick:=fun i sz n b h hj=>by
  obtain⟨vs,t,h1⟩:=hr.tick i _ n b h hj
  grind
 arr:=fun i sz v xs h=>by
  rcases hr.arr i _ v _ h with he|⟨b,vs,t,h1,h2,h3,h4,h5⟩
  ·exact .inl he
  have hi  := (aj.1 h).1;refine .inr ⟨b,vs,t,h1,(hb b (hr.lt i b hi h1)).trans h2,h3,h4,fun q x k c hx hk=>?_⟩
  obtain⟨u,h6,h7⟩:=h5 q x k c hx hk;exact⟨u,h6,h7.mono (Ext.grow hsz hos ht ho hb).iE⟩
 vk:=hr.vk
 AF:=fun b off h=>bu (hr.AF b _ h) hsz
end
class kC where
 g:Nat->Option (List Value)
 q:Nat->Option (Value->Prop):=fun _=>none
 u8:Nat:=0
structure sV[kC](j:J)(M:aC)(w:World):Prop where
 g:∀b vs k v,kC.g b=some vs->vs[k]?=some v->ow j M w b k/\w.cell? ⟨b,k,none⟩=some v
 n:∀b vs,kC.g b=some vs->∃us t fr,w.heap[b]?=some (.cells us t fr)/\us.size=vs.length
 q:∀b p,kC.q b=some p->∃v,p v/\ow j M w b 0/\w.cell? ⟨b,0,none⟩=some v
theorem sV.iE[kC]{j j':J}{M M':aC}{w:World}(h:sV j M w)(hx:∀b off,ow j M w b off->ow j' M' w b off):sV j' M' w where
 g:=fun b vs k v hb hk=>⟨hx _ _ (h.g b _ k v hb hk).1,(h.g b _ k v hb hk).2⟩
 n:=h.n
 q:=fun b p hb=>by
  obtain⟨v,h0,h1,h2⟩:=h.q b p hb
  grind
theorem sV.mono[kC]{j j':J}{M M':aC}{w w':World}(h:sV j M w)(hx:Ext j M w j' M' w'):sV j' M' w' where
 g:=fun b vs k v hb hk=>by
  obtain⟨h1,h2⟩:=h.g b _ k v hb hk;obtain⟨h3,h4⟩:=hx.iE _ _ h1
  grind
 n:=fun b vs hb=>by
  obtain⟨us,t,fr,h1,h2⟩:=h.n b _ hb;obtain⟨us',fr',h3,h4⟩:=hx.tags b _ t _ h1
  grind
 q:=fun b p hb=>by
  obtain⟨v,h0,h1,h2⟩:=h.q b p hb;obtain⟨h3,h4⟩:=hx.iE _ _ h1
  grind
variable [kC]
structure cn(j:J)(M:aC)(w:World)(bp:Env)(a:Act):Prop where
 at':∀t,gn j M w (ib bp t) (a.tmps.getD t undef)
 gl:sV j M w
def cn.mono{j j':J}{M M':aC}{w w':World}{bp:Env}{a:Act}(h:cn j M w bp a)(hx:Ext j M w j' M' w'):cn j' M' w' bp a :=
 ⟨fun t=>(h.at' t).mono hx,h.gl.mono hx⟩
def cn.put{j:J}{M:aC}{w:World}{bp:Env}{a:Act}{n:Nat}(h:cn j M w bp a)(hs:a.tmps.size=n){dst:Option Nat}(hd:∀d,dst=some d->d<n)
  {x:ag} {v:Value} (hv:gn j M w x v):cn j M w (rK bp dst x) (a.put dst v):=by
 refine⟨fun t=>?_,h.gl⟩
 cases dst with
 |none=>exact h.at' t
 |some d =>
  simp[rK,ib,Act.put]
  by_cases he:d=t
  ·simp_all
  ·have:=h.at' t;simp_all
theorem zb(bp:Env)(live:List Nat)(t:Nat):ib (jq bp live) t=if t∈live then ib bp t else .any:=by
 induction live<;>grind [jq,ib]
def cn.rn{j:J}{M:aC}{w:World}{bp:Env}{a:Act}(h:cn j M w bp a)(live:List Nat):cn j M w (jq bp live) a:=by
 refine⟨fun t=>?_,h.gl⟩
 rw[zb];split
 ·exact h.at' t
 ·exact .any _
end
section
open Go
def KA:Value->Option ag
 | .bool b=>some (.bool b)
 | .int k n=>some (.int k n)
 | .string s=>some (.str s.data.toList)
 | .slice none 0 0=>some (.slice .c0 [])
 | .pointer none=>some (.raw (.pointer none))
 | .nilFunc=>some (.raw .nilFunc)
 | .nilIface=>some (.raw .nilIface)
 | .map none=>some (.raw (.map none))
 |_=>none
def tp:List Value->Option (List ag)
 | []=>some []
 |v::r=>(KA v).bind fun x=>(tp r).bind fun l=>some (x::l)
def Q5:Value->Option ag
 | .agg vs=>(tp vs.toList).bind fun l=>some (.agg l)
 |v=>KA v
def abU:Value->Option ag
 | .bool b=>some (.bool b)
 | .int k n=>some (.int k n)
 | .string s=>some (.str s.data.toList)
 | .pointer none=>some (.raw (.pointer none))
 | .nilIface=>some (.raw .nilIface)
 |_=>none
def Q4:List Value->Option (List ag)
 | []=>some []
 |v::r=>(abU v).bind fun x=>(Q4 r).bind fun l=>some (x::l)
variable [kC]
def aib:Operand->Operand->Bool
 | .tmp x,.tmp y=>x==y
 | .const (.int k x),.const (.int l y)=>decide (k=l)&&decide (x=y)
 |_,_=>false
def abB:∀ {x y:Operand},aib x y=true->x=y:=by
 intro x y h;unfold aib at h;split at h<;>simp_all
def eW:Operand->Option fX
 | .tmp t=>some (.tmp t)
 | .const v=>(Q5 v).bind fun x=>some (.tg x)
 | .func f=>some (.tg (.func f []))
 | .global g=>(kC.g g).bind fun vs=>(Q4 vs).bind fun l=>some (.tg (.jC l))
def Ri:Operand->Option fX
 | .func f=>some (.tg (.raw (.func (.func f) ⟨[]⟩ ⟨[]⟩)))
 |x=>eW x
def x4(n:Nat):List (Nat×Operand)->Option (List (Nat×Nat×fX))
 | []=>some []
 |(i,x)::r=>(eW x).bind fun y=>(x4 n r).bind fun l=>some ((i*n,n,y)::l)
def vv:List Operand->Option (List fX)
 | []=>some []
 |x::r=>(eW x).bind fun y=>(vv r).bind fun l=>some (y::l)
def yW:Option Operand->Option (Option fX)
 |none=>some none
 |some x=>(eW x).bind fun y=>some (some y)
def qE(P:Program)(t:TypeId):Option Nat:=(P.info? t).bind fun i=>some i.size
def CE(P:Program)(t:TypeId):Option Bool:=(P.underlying t).bind fun d=>some (match d with | .struct _ | .array _ _=>true|_=>false)
def AR(P:Program)(fs:Array Field):List (Nat×Operand)->Option (List (Nat×Nat×fX))
 | []=>some []
 |(i,x)::r=>(fs[i]?).bind fun f=>(qE P f.type).bind fun n=>(eW x).bind fun y=>(AR P fs r).bind fun l=>some ((f.offset,n,y)::l)
def GZ:Nat->List (Nat×Operand)->Option (List fX)
 |_,[]=>some []
 |k,(i,x)::r=>if i=k then (eW x).bind fun y=>(GZ (k+1) r).bind fun l=>some (y::l) else none
def R3 (P:Program) (f:Field):Option FK:=if f.name = "_" then none else match P.underlying f.type with
 |some .bool=>some .b
 |some (.int _)=>some .i
 |some .string=>some .s
 |_=>none
def B8(P:Program):Nat->List Field->Option (List FK)
 |_,[]=>some []
 |k,f::r=>if f.offset=k then (R3 P f).bind fun x=>(B8 P (k+1) r).bind fun l=>some (x::l) else none
def D6(P:Program)(t:TypeId):Option FK:=match P.underlying t with
 |some .bool=>some .b
 |some (.int _)=>some .i
 |some .string=>some .s
 |_=>none
def OM:BinOp->Option Od
 | .and=>some .and | .or=>some .or | .andNot=>some .bic
 | .add=>some .add | .sub=>some .sub | .mul=>some .mul | .quo=>some .quo | .rem=>some .rem
 | .eql=>some .eql | .neq=>some .neq | .lss=>some .lss | .leq=>some .leq | .gtr=>some .gtr | .geq=>some .geq
 | .shl=>some .shl | .shr=>some .shr
 |_=>none
def lG (P:Program) (f:Nat):Bool:=match P.funcs[f]? with|some fn=>fn.name != "runtime.NumGoroutine" && fn.body.isSome|none=>false
def Rh(P:Program)(own:List Nat)(dst:Option Nat)(type:TypeId)(c:Call):Option ky :=
 match c.callee with
 | .value (.func f)=>if lG P f then (vv c.args.toList).bind fun l=>some (if own.contains (1000000+f) then .BV f l else if own.contains (2000000+f) then .lj f l else if own.contains (8000000+f) then .wF f l else .call f l) else none
 | .value (.tmp t)=>(vv c.args.toList).bind fun l=>some (if own.contains (12000000+t) then .BW (.tmp t) l else .sC (.tmp t) l)
 | .builtin .len=>match c.args.toList,(c.argTypes[0]?).bind P.underlying with
  | [x],some .string=>(eW x).bind fun y=>some (.VC y)
  | [x],some (.slice _)=>(eW x).bind fun y=>some (.z6 y)
  | [x],some (.map _ _)=>(eW x).bind fun y=>some (.PC y)
  |_,_=>none
 | .builtin .copy=>match c.args.toList,c.argTypes.toList with
  | [x,y],[t,t']=>match P.underlying t,P.underlying t' with
   |some (.slice e),some (.slice _)=>(qE P e).bind fun n=>(eW x).bind fun x=>(eW y).bind fun y=>if 0<n then some (.FE n x y) else none
   |_,_=>none
  |_,_=>none
 | .builtin .append=>match c.args.toList,c.argTypes.toList with
  | [x,y],[t,t']=>match P.underlying t,P.underlying t' with
   |some (.slice e),some (.int _)=>(P.info? e).bind fun i=>i.zero.bind fun z=>(tp z.cells.toList).bind fun l=>(eW x).bind fun x=>(eW y).bind fun y =>
    if l.length=i.size/\0<i.size/\0<i.bytes/\i.bytes<=2 ^ 20 then some (.xV i.size i.bytes (l.map ag.shut) x y) else none
   |some (.slice e),some (.slice _)=>(P.info? e).bind fun i=>(eW x).bind fun x=>(eW y).bind fun y =>
    if decide ((i.zero.map fun z=>z.cells.size)=some i.size)&&decide (0<i.size)&&decide (0<i.bytes)&&decide (i.bytes<=2 ^ 20) then some (match dst with|some d=>if own.contains (7000000+d) then .vY i.size i.bytes x y else .append i.size i.bytes x y|none => .append i.size i.bytes x y) else none
   |_,_=>none
  |_,_=>none
 | .builtin .clear=>match c.args.toList,c.argTypes.toList with
  | [x],[t]=>match P.underlying t with
   |some (.slice e)=>(P.info? e).bind fun i=>i.zero.bind fun z=>(tp z.cells.toList).bind fun l=>(eW x).bind fun x =>
    if l.length=i.size/\0<i.size then some (.xd i.size (l.map ag.shut) x) else none
   |_=>none
  |_,_=>none
 | .builtin .max=>match c.args.toList with|[x,y]=>(eW x).bind fun x=>(eW y).bind fun y=>some (.Bq true x y)|_=>none
 | .builtin .min=>match c.args.toList with|[x,y]=>(eW x).bind fun x=>(eW y).bind fun y=>some (.Bq false x y)|_=>none
 |_=>none
def Rj(own:List Nat)(dst:Option Nat)(n:Nat)(x:fX)(lo hi mx:Option fX):ky :=
 match dst,hi with
 |some d,some h=>if own.contains (15000000+d)&&lo.isNone&&mx.isNone then .O0 n x h else .uA n x lo hi mx
 |_,_ => .uA n x lo hi mx
def ON(P:Program)(own:List Nat)(o:Oper):Option ky :=
 match o.op with
 | .move x=>(eW x).bind fun x=>some (.mv x)
 | .assign x=>(eW x).bind fun x =>
  match o.dst with
  |some d=>if own.contains d then match P.underlying o.type with
    |some (.slice e)=>(qE P e).bind fun n=>match x with
     | .tg (.slice .c0 [])=>some (.own n x)
     |_=>some (.mv x)
    |_=>none
   else if own.contains (13000000+d) then match P.underlying o.type with
    |some (.slice e)=>(qE P e).bind fun n=>some (.own (500+n) x)
    |_=>none
   else some (.mv x)
  |none=>some (.mv x)
 | .pick c a b=>(eW c).bind fun c=>(eW a).bind fun a=>(eW b).bind fun b=>some (.pick c a b)
 | .alloc t=>(P.info? t).bind fun i=>i.zero.bind fun z=>(tp z.cells.toList).bind fun l =>
  match o.dst with
  |some d=>if own.contains (6000000+d) then (match P.underlying t,l with
    |some (.slice e),[.slice .c0 []]=>(qE P e).bind fun n=>some (.OL n)
    |_,_=>none) else some (.yU l)
  |none=>some (.yU l)
 | .box t x=>(eW x).bind fun x=>some (.box x)
 | .build t parts=>match P.underlying t with
  |some (.struct fs)=>(P.info? t).bind fun i=>i.zero.bind fun z=>(tp z.cells.toList).bind fun l=>(AR P fs parts.toList).bind fun ps =>
   if fs.all (fun f=>(P.info? f.type).isSome) then some (.build l ps) else none
  |some (.array _ e)=>(P.info? t).bind fun i=>i.zero.bind fun z=>(tp z.cells.toList).bind fun l=>(qE P e).bind fun n=>(x4 n parts.toList).bind fun ps=>some (.build l ps)
  |_=>none
 | .buildSlice t len parts=>match P.underlying t with
  |some (.slice e)=>(P.info? e).bind fun i=>(GZ 0 parts.toList).bind fun l =>
   if l.length=len/\len*i.size<=2 ^ 24/\(i.zero.map fun z=>z.cells.size)=some i.size/\0<i.size then some (match o.dst with|some d=>if own.contains d then .Gc i.size l else if own.contains (13000000+d)&&l.isEmpty then .own (500+i.size) (.tg (.slice .c0 [])) else .lits i.size l|none => .lits i.size l) else none
  |_=>none
 | .load t x=>(CE P t).bind fun g=>(qE P t).bind fun n=>(eW x).bind fun x=>some (if g then .mP n x else .rH x)
 | .store t a x=>(qE P t).bind fun n=>(eW a).bind fun a=>(eW x).bind fun x=>some (match a with
  | .tmp s=>match own.find? (fun m=>decide (1000000000<=m)&&decide (m<2000000000)&&decide (m % 1000=s)) with
   |some m => .BG (m / 1000000 % 1000) (m / 1000 % 1000) n a x
   |none => .store n a x
  |_ => .store n a x)
 | .nilCheck x=>(eW x).bind fun x=>some (.chk x)
 | .binOp op t x y _=>(eW x).bind fun x=>(eW y).bind fun y=>match P.underlying t with
  |some (.int _)|some .string=>(OM op).bind fun b=>some (.bin b x y)
  |some .bool=>match op with
   | .eql=>some (.eqB false x y)
   | .neq=>some (.eqB true x y)
   |_=>none
  |some (.struct fs)=>if P.stoodInHeld t then none else (B8 P 0 fs.toList).bind fun ks=>match op with
   | .eql=>some (.QG ks false x y)
   | .neq=>some (.QG ks true x y)
   |_=>none
  |some (.array len e)=>match P.underlying e,op with
   |some (.int _),.eql=>if qE P e=some 1 then some (.QG (List.replicate len .i) false x y) else none
   |_,_=>none
  |_=>none
 | .unOp .not _ x=>(eW x).bind fun x=>some (.not x)
 | .unOp .neg _ x=>(eW x).bind fun x=>some (.neg x)
 | .convert s d x=>(eW x).bind fun x=>match P.underlying s,P.underlying d with
  |some (.int _),some (.int k)=>some (.conv k x)
  |some .string,some .string=>some (.same x)
  |some (.slice e),some .string=>match P.underlying e with|some (.int .u8)=>some (.b2s x)|_=>none
  |_,_=>none
 | .makeFunc (.func f) first caps=>if first.isEmpty then (vv caps.toList).bind fun l=>some (.fn f l) else if caps.isEmpty then (vv first.toList).bind fun l=>some (.Fx f l) else none
 | .slice t x lo hi mx=>(eW x).bind fun x=>(yW lo).bind fun lo=>(yW hi).bind fun hi=>(yW mx).bind fun mx=>match P.underlying t with
  |some .string=>if mx.isNone then some (.BD x lo hi) else none
  |some (.slice e)=>(qE P e).bind fun n=>if 0<n/\(mx.isNone\/hi.isSome) then some (Rj own o.dst n x lo hi mx) else none
  |_=>none
 | .fieldAddr s x f=>match P.underlying s with
  |some (.struct fs)=>(fs[f]?).bind fun f=>(qE P f.type).bind fun n=>(eW x).bind fun x=>if 0<n then some (.yE f.offset x) else none
  |_=>none
 | .field s x f=>match P.underlying s with
  |some (.struct fs)=>(fs[f]?).bind fun f=>(CE P f.type).bind fun g=>(qE P f.type).bind fun n=>(eW x).bind fun x=>some (if g then .DG f.offset n x else .DF f.offset x)
  |_=>none
 | .indexAddr t x i=>match P.underlying t with
  |some (.slice e)=>(qE P e).bind fun n=>(eW x).bind fun x=>(eW i).bind fun i=>if 0<n then some (.uh n x i) else none
  |some (.array len e)=>(qE P e).bind fun n=>(eW x).bind fun x=>(eW i).bind fun i=>if 0<n then some (.Be len n x i) else none
  |_=>none
 | .index t x i=>match P.underlying t with
  |some .string=>(eW x).bind fun x=>(eW i).bind fun i=>some (.Bf x i)
  |_=>none
 | .extract x i=>(eW x).bind fun x=>some (.extract x i)
 | .call c=>Rh P own o.dst o.type c
 | .makeMap _ none=>some .mkMap
 | .lookup t x i ok=>match P.underlying t with
  |some (.map k e)=>(D6 P k).bind fun fk=>(P.info? e).bind fun ie=>ie.zero.bind fun zv=>(Q5 zv).bind fun z=>(eW x).bind fun x=>(eW i).bind fun i=>some (.look fk z ok x i)
  |_=>none
 | .mapUpdate t m k v=>match P.underlying t with
  |some (.map kt _)=>(D6 P kt).bind fun fk=>(eW m).bind fun m=>(eW k).bind fun k=>(eW v).bind fun v=>some (.gI fk m k v)
  |_=>none
 | .range t x=>match P.underlying t with
  |some .string=>(eW x).bind fun x=>some (.Qg x)
  |_=>none
 | .next it true=>(eW it).bind fun it=>some (.Gi it)
 | .makeInterface t x=>(eW x).bind fun x=>match P.underlying t with
  |some (.interface _)=>none
  |some _=>some (.iface t x)
  |none=>none
 | .panic x=>(eW x).bind fun x=>some (.raise x)
 | .insert t m k v=>match P.underlying t with
  |some (.map kt _)=>(D6 P kt).bind fun fk=>(eW m).bind fun m=>(eW k).bind fun k=>(Ri v).bind fun v=>some (.gI fk m k v)
  |_=>none
 | .makeSlice t x y=>match P.underlying t with
  |some (.slice e)=>(P.info? e).bind fun i=>i.zero.bind fun z=>(tp z.cells.toList).bind fun l=>(eW x).bind fun x' =>
   if aib x y=true/\l.length=i.size/\0<i.size/\i.bytes<=32*i.size then some (match o.dst with|some d=>if own.contains (5000000+d) then .PO (l.map ag.shut) x' else .mkS (l.map ag.shut) x'|none => .mkS (l.map ag.shut) x') else none
  |_=>none
 |_=>none
structure CA where
 n:Nat
 own:List Nat:=[]
 lv:List (Nat×List Nat)
 lp:List (Nat×List Nat):=[]
def find(l:List (Nat×List Nat))(k:Nat):List Nat:=match l with
 | []=>[]
 |(i,x)::r=>if i=k then x else find r k
def ab5(n:Nat):Option Nat->Bool
 |some d=>decide (d<n)
 |none=>true
def MD(P:Program)(A:CA)(ops:Array Oper)(grow:Bool)(o:Oper):Option db :=
 (ON P A.own o).bind fun op =>
  if ab5 A.n o.dst then
   match o.guard with
   |none=>some { dst:=o.dst,op,guard:=none,grow }
   |some (k,want)=>((ops[k]?).bind (·.dst)).bind fun t=>if t<A.n then some { dst:=o.dst,op,guard:=some (t,want),grow } else none
  else none
def tY(P:Program)(A:CA)(ops:Array Oper)(grow:List Bool):List Oper->Option (List db)
 | []=>some []
 |o::r=>(MD P A ops (grow.headD false) o).bind fun x=>(tY P A ops grow.tail r).bind fun l=>some (x::l)
def ll:Code->Nat
 | .region id _ _=>id
 | .seq a _=>ll a
 | .block _ c=>ll c
 | .loop c=>ll c
 | .cond _ a _=>ll a
 |_=>0
def fX.ma:fX->List Nat
 | .tmp t=>[t]
 | .tg _=>[]
def Bv:Option fX->List Nat
 |some x=>x.ma
 |none=>[]
def ky.ma:ky->List Nat
 | .mv x | .own _ x | .box x | .mP _ x | .rH x | .chk x | .not x | .neg x | .conv _ x | .same x | .yE _ x | .DG _ _ x | .DF _ x | .extract x _ | .VC x | .z6 x | .b2s x | .PC x | .Qg x | .Gi x | .xd _ _ x | .iface _ x | .raise x | .mkS _ x | .PO _ x=>x.ma
 | .pick c a b=>c.ma++(a.ma++b.ma)
 | .yU _ | .mkMap | .OL _=>[]
 | .build _ ps=>ps.flatMap fun p=>p.2.2.ma
 | .lits _ ps | .Gc _ ps=>ps.flatMap fX.ma
 | .store _ a x | .BG _ _ _ a x=>a.ma++x.ma
 | .gI _ m k v=>m.ma++(k.ma++v.ma)
 | .bin _ x y | .look _ _ _ x y | .QG _ _ x y | .eqB _ x y | .uh _ x y | .Be _ _ x y | .Bf x y | .O0 _ x y | .append _ _ x y | .vY _ _ x y | .Bq _ x y | .xV _ _ _ x y | .FE _ x y=>x.ma++y.ma
 | .fn _ l | .Fx _ l=>l.flatMap fX.ma
 | .BD x l h=>x.ma++(Bv l++Bv h)
 | .uA _ x l h m=>x.ma++(Bv l++(Bv h++Bv m))
 | .call _ l | .BV _ l | .lj _ l | .wF _ l=>l.flatMap fX.ma
 | .sC f l | .BW f l=>f.ma++l.flatMap fX.ma
def ky.QH:ky->Bool
 | .own .. | .Gc .. | .PO .. | .xV .. | .FE .. | .OL _ | .yU _ | .box _ | .store .. | .BG .. | .call .. | .sC .. | .BW .. | .BV .. | .lj .. | .wF .. | .xd .. | .append .. | .vY .. | .mkMap | .gI .. | .PC _ | .Qg _ | .Gi _=>true
 |_=>false
def ky.QI:ky->Bool
 | .mP .. | .rH _ | .look .. => true
 |_=>false
def db.reads(o:db):List Nat:=o.op.ma++(match o.guard with|some (t,_)=>[t]|none=>[])
def xz(acc:List Nat):List Edge->Nat
 | []=>0
 |e::r=>if Region.binds .any e then xz acc r ||| (2 ^ e.on ||| (nth acc e.on).getD 0) else xz acc r
def Dl:List Oper->List Nat->List Nat
 | [],acc=>acc
 |o::r,acc=>Dl r (acc++[xz acc o.after.toList])
def rl(ops:List Oper):List Nat:=Dl ops []
def ahead(bs:List Nat)(i k:Nat):Bool:=((nth bs k).getD 0).testBit i
def meet(x y:db):Bool :=
 (match x.dst with|some d=>y.reads.contains d||y.dst==some d|none=>false)||(match y.dst with|some d=>x.reads.contains d|none=>false)
def fenced(bs:List Nat)(l:List db)(k:Nat):Bool:=(List.range l.length).all fun i=>match nth l i with
 |some x => !x.op.QI||(if i<k then ahead bs i k else i==k||ahead bs k i)
 |none=>true
def ky.xk:ky->Bool
 | .call .. | .sC .. => true
 |_=>false
def ordered(bs:List Nat)(i k:Nat):Bool:=i==k||(if i<k then ahead bs i k else ahead bs k i)
def alone(bs:List Nat)(l:List db)(k:Nat):Bool:=(List.range l.length).any fun i=>match nth l i with
 |some x=>x.op.QH && !ordered bs i k
 |none=>false
def ky.N0:ky->Option Nat
 | .rH (.tmp z)=>some z
 | .mP _ (.tmp z)=>some z
 | .look _ _ _ (.tmp z) _=>some z
 |_=>none
def ky.asr:ky->Bool
 | .store .. => true
 | .append .. | .vY .. => true
 |_=>false
def ana(l:List db)(i k z:Nat):Bool:=(List.range k).all fun p=>decide (p<i)||match nth l p with|some x=>x.dst != some z|none=>true
def Mo(bs:List Nat)(l:List db)(k:Nat):Bool:=(List.range l.length).all fun i=>i==k||(if i<k then (ahead bs i k||match nth l i with|some x => !x.op.QH|none=>false) else ahead bs k i)
def NX(bs:List Nat)(l:List db)(k:Nat):List Nat:=(List.range k).filterMap fun i=>match nth l i with
 |some x=>if x.op.QI && !ahead bs i k then x.op.N0 else none
 |none=>none
def C5(bs:List Nat)(l:List db)(k:Nat)(sep:List Nat):Bool:=(List.range l.length).all fun i=>match nth l i with
 |some x => !x.op.QI||i==k||(if i<k then (ahead bs i k||match x.op.N0 with|some z=>sep.contains z&&ana l i k z|none=>false) else ahead bs k i)
 |none=>true
def qv(bs:List Nat)(l:List db):Nat->List db->List db
 |_,[]=>[]
 |k,x::r=>{ x with grow:=x.op.QH && !(x.op.xk&&alone bs l k) && !fenced bs l k,xC:=x.op.xk&&alone bs l k,sep:=if x.op.asr && !fenced bs l k&&C5 bs l k (NX bs l k) then NX bs l k else [],stop := !x.op.Rl||Mo bs l k }::qv bs l (k+1) r
def db.uj(x:db):Bool:=x.op.QH && !x.xC
def L1:ky->Bool
 | .rH (.tg _) | .mP _ (.tg _) | .look _ _ _ (.tg _) _=>false
 |_=>true
def Cb(ops:Array Oper)(l:List db)(k:Nat):Bool:=match ops[k]?,nth l k with
 |some o,some y=>(match y.op with
  | .yU _=>(match o.op with | .alloc _=>true|_=>false)
  | .box _=>(match o.op with | .box _ _=>true|_=>false)
  | .wF .. => (match o.op with | .call c=>(match c.callee with | .value (.func _)=>true|_=>false)|_=>false)
  |_=>false)&&y.guard.isNone
 |_,_=>false
def Hw(ops:Array Oper)(bs:List Nat)(l:List db):Bool:=(List.range l.length).all fun k=>match nth l k,ops[k]? with
 |some y,some o=>o.after.toList.all (fun e => !Region.binds .any e||decide (e.on<k))&&((!y.xC||y.op.xk)&&L1 y.op)&&((!(y.uj && !y.grow)||fenced bs l k)&&(y.sep.isEmpty||C5 bs l k y.sep)) &&
  ((!y.lets||Mo bs l k)&&(List.range k).all fun i=>match nth l i with
   |some x=>(!meet x y||ahead bs i k)&&(!(x.uj&&y.uj)||(ahead bs i k||(Cb ops l i&&Cb ops l k)))
   |none=>false)
 |_,_=>false
def Bu(ops:Array Oper)(l:List db):Option (List db) :=
 if Hw ops (rl ops.toList) (qv (rl ops.toList) l 0 l) then some (qv (rl ops.toList) l 0 l) else none
def Za(A:CA)(y:Code)(c:cG):cG:=match A.own.find? (fun m=>decide (m / 1000=14000000+ll y)) with
 |some m => .rq (m % 1000) c
 |none=>c
def Ny(A:CA)(c:Code)(l:List Nat)(x:cG):cG:=if A.own.contains (11000000+ll c) then .nG l x else .loop l x
def comp(P:Program)(A:CA):Code->Option cG
 | .skip=>some .skip
 | .region id ops draw=>if draw then
   (tY P { A with own:=A.own.filter (1000000 <= ·) } ops [] ops.toList).bind fun l0=>(Bu ops l0).bind fun l=>some (.region l true (find A.lv id))
  else (tY P A ops [] ops.toList).bind fun l=>some (.region l false (find A.lv id))
 | .seq a b=>(comp P A a).bind fun x=>(comp P A b).bind fun y=>some (.seq x (Za A b y))
 | .cond c a b=>(eW c).bind fun c=>(comp P A a).bind fun x=>(comp P A b).bind fun y=>some (.cond c x y)
 | .block id c=>(comp P A c).bind fun x=>some (.block id x)
 | .loop c=>(comp P A c).bind fun x=>some (Ny A c (find A.lp (ll c)) x)
 | .exit id=>some (.exit id)
 | .ret=>some .ret
 |_=>none
def Il(P:Program):List ResultVar->Option (List sS)
 | []=>some []
 | .tmp t::r=>(Il P r).bind fun l=>some (.tmp t::l)
 | .cell a t::r=>(CE P t).bind fun g=>(qE P t).bind fun n=>(Il P r).bind fun l=>some ((if g then .dK a n else .abY a)::l)
def pg(P:Program)(A:CA)(fn:Func):Option eJ :=
 match fn.body with
 |none=>none
 |some c=>if fn.name != "runtime.NumGoroutine" /\ A.n=fn.ntmps/\fn.params.size+fn.nfree<=fn.ntmps then
   (comp P A c).bind fun b=>(Il P fn.results.toList).bind fun r=>some { nparams:=fn.params.size+fn.nfree,results:=r,body:=b }
  else none
end
section
open Go
def aod(x:Operand)(s:Nat):Nat:=match x with
 | .tmp t=>s ||| (1 <<< t)
 |_=>s
def opB(ops:Array Oper)(o:Oper)(s:Nat):Nat :=
 let s:=match o.dst,o.guard with
  |some d,none=>if s.testBit d then s-(1 <<< d) else s
  |_,_=>s
 let s:=o.op.operands.toList.foldl (fun s x=>aod x s) s
 match o.guard with
 |some (k,_)=>match (ops[k]?).bind (·.dst) with
  |some t=>s ||| (1 <<< t)
  |none=>s
 |none=>s
def auf(ops:Array Oper)(out:Nat):Nat :=
 let l:=ops.toList.foldr (opB ops) out
 let g:=ops.toList.foldl (fun g o=>match o.dst,o.guard with
  |some d,some _=>g ||| (1 <<< d)
  |_,_=>g) 0
 let d:=g ^^^ (g &&& out)
 l ^^^ (l &&& d)
def Nv:List (Nat×Nat)->Nat->Nat
 | [],_=>0
 |(i,x)::r,k=>if i=k then x else Nv r k
def z8(ret:Nat):Code->List (Nat×Nat)->Nat->Nat×List (Nat×Nat)×List (Nat×Nat)
 | .skip,_,out=>(out,[],[])
 | .region id ops _,_,out=>(auf ops out,[(id,out)],[])
 | .seq a b,ex,out =>
  let y:=z8 ret b ex out
  let x:=z8 ret a ex y.1
  (x.1,x.2.1++y.2.1,x.2.2++y.2.2)
 | .cond c a b,ex,out =>
  let x:=z8 ret a ex out
  let y:=z8 ret b ex out
  (aod c (x.1 ||| y.1),x.2.1++y.2.1,x.2.2++y.2.2)
 | .block id c,ex,out=>z8 ret c ((id,out)::ex) out
 | .loop c,ex,_ =>
  let h1:=(z8 ret c ex 0).1
  let h2:=h1 ||| (z8 ret c ex h1).1
  let z:=z8 ret c ex h2
  let h3:=h2 ||| z.1
  (h3,z.2.1,(ll c,h3)::z.2.2)
 | .exit id,ex,_=>(Nv ex id,[],[])
 | .ret,_,_=>(ret,[],[])
 |_,_,out=>(out,[],[])
def akM(n s:Nat):List Nat:=(List.range n).filter s.testBit
def Fq(own:List Nat)(fn:Func):CA:=match fn.body with
 |none=>{ n:=0,lv:=[] }
 |some c =>
  let r:=fn.results.toList.foldl (fun s x=>match x with
   | .tmp t=>s ||| (1 <<< t)
   | .cell t _=>s ||| (1 <<< t)) 0
  let z:=z8 r c [] r
  let f:=fun(p:Nat×Nat)=>(p.1,akM fn.ntmps p.2)
  { n:=fn.ntmps,own:=own,lv:=z.2.1.map f,lp:=z.2.2.map f }
def cG.size:cG->Nat
 | .seq a b=>a.size+b.size+1
 | .cond _ a b=>a.size+b.size+1
 | .block _ a=>a.size+1
 | .loop _ a=>a.size+1
 | .nG _ a=>a.size+1
 | .rq _ a=>a.size+1
 | .region .. => 1
 | .skip=>1
 | .exit _=>1
 | .ret=>1
def cG.sQ:cG->List cG
 | .seq a b => .seq a b::(a.sQ++b.sQ)
 | .cond c a b => .cond c a b::(a.sQ++b.sQ)
 | .block i a => .block i a::a.sQ
 | .loop l a => .loop l a::a.sQ
 | .nG l a => .nG l a::a.sQ
 | .rq l a => .rq l a::a.sQ
 |c=>[c]
def sub(c:cG)(i:Nat):cG:=(c.sQ[i]?).getD .skip
def ref(r:cG)(i:Nat):cG->cG
 | .skip => .skip
 | .exit n => .exit n
 | .ret => .ret
 | .region .. => sub r i
 | .seq .. => sub r i
 | .cond .. => sub r i
 | .block .. => sub r i
 | .loop .. => sub r i
 | .nG .. => sub r i
 | .rq .. => sub r i
def Ap(r:cG)(i:Nat):cG->cG
 | .region a b c => .region a b c
 | .skip => .skip
 | .exit n => .exit n
 | .ret => .ret
 | .seq .. => sub r i
 | .cond .. => sub r i
 | .block .. => sub r i
 | .loop .. => sub r i
 | .nG .. => sub r i
 | .rq .. => sub r i
abbrev Hd(q b:cG):Prop:=∀(C:eR)(fn:List sS)(bS:Nat)(k:List K)(bp:Env)(M:aC),eX C fn bS k q bp M=eX C fn bS k b bp M
def CI(e:Prop):cG->Prop
 | .region .. => True
 | .skip | .exit _ | .ret=>True
 | .seq .. => e
 | .cond .. => e
 | .block .. => e
 | .loop .. => e
 | .nG .. => e
 | .rq .. => e
def eqs(r:cG):Nat->cG->Prop
 |i,.seq a b=>Hd (sub r i) (.seq (Ap r (i+1) a) (ref r (i+1+a.size) b))/\(CI (eqs r (i+1) a) a/\eqs r (i+1+a.size) b)
 |i,.cond c a b=>Hd (sub r i) (.cond c (ref r (i+1) a) (ref r (i+1+a.size) b))/\(eqs r (i+1) a/\eqs r (i+1+a.size) b)
 |i,.block n a=>Hd (sub r i) (.block n (ref r (i+1) a))/\eqs r (i+1) a
 |i,.loop n a=>Hd (sub r i) (.loop n (ref r (i+1) a))/\eqs r (i+1) a
 |i,.nG n a=>Hd (sub r i) (.nG n (ref r (i+1) a))/\eqs r (i+1) a
 |i,.rq n a=>Hd (sub r i) (.rq n (ref r (i+1) a))/\eqs r (i+1) a
 |i,.region a b c=>Hd (sub r i) (.region a b c)
 |_,.skip=>True
 |_,.exit _=>True
 |_,.ret=>True
def pY:∀c:cG,c.sQ.length=c.size
 | .seq a b=>by simp[cG.sQ,cG.size,pY a,pY b]
 | .cond _ a b=>by simp[cG.sQ,cG.size,pY a,pY b]
 | .block _ a=>by simp[cG.sQ,cG.size,pY a]
 | .loop _ a=>by simp[cG.sQ,cG.size,pY a]
 | .nG _ a=>by simp[cG.sQ,cG.size,pY a]
 | .rq _ a=>by simp[cG.sQ,cG.size,pY a]
 | .region .. | .skip | .exit _ | .ret=>by simp[cG.sQ,cG.size]
def ah5(c:cG):c.sQ[0]?=some c:=by cases c<;>simp[cG.sQ]
def At(r:cG)(i:Nat)(c:cG):Prop:=∀j,j<c.size->r.sQ[i+j]?=c.sQ[j]?
def size_pos(c:cG):0<c.size:=by cases c<;>simp[cG.size]
def At.sub{r c:cG}{i:Nat}(h:At r i c):sub r i=c:=by
 have:=h 0 (size_pos c);rw[dp,ah5] at this;simp[Abs.sub,this]
def At.ref{r c:cG}{i:Nat}(h:At r i c):ref r i c=c:=by
 cases c<;>first|rfl|exact h.sub
def At.Ap{r c:cG}{i:Nat}(h:At r i c):Ap r i c=c:=by
 cases c<;>first|rfl|exact h.sub
def YU{e:Prop}{c:cG}(h:e):CI e c:=by
 cases c<;>first|trivial|exact h
def At.two{r a b x:cG}{i:Nat}(h:At r i x)(hx:x.sQ=x::(a.sQ++b.sQ))(hs:x.size=a.size+b.size+1):At r (i+1) a/\At r (i+1+a.size) b:=by
 refine⟨fun j hj=>?_,fun j hj=>?_⟩
 ·have:=h (j+1) aJ;rw[hx,cZ,aN (by rw[pY]; exact hj)] at this
  rw[<-this]; congr 1; omega
 ·have:=h (a.size+j+1) aJ;rw[hx,cZ,bj (by rw[pY]; omega),pY] at this
  rw[show a.size+j-a.size=j by omega] at this
  rw[<-this]; congr 1; omega
def At.one{r a x:cG}{i:Nat}(h:At r i x)(hx:x.sQ=x::a.sQ)(hs:x.size=a.size+1):At r (i+1) a:=by
 intro j hj;have:=h (j+1) aJ;rw[hx,cZ] at this;rw[<-this]; congr 1; omega
def DV{q b:cG}(h:q=b):Hd q b:=nt h
def wi(r:cG):∀(c:cG)(i:Nat),At r i c->eqs r i c
 | .seq a b,i,h=>by
  obtain⟨h1,h2⟩:=h.two (a:=a) (b:=b) rfl rfl;exact⟨DV (by rw[h.sub,h1.Ap,h2.ref]),YU (wi r a _ h1),wi r b _ h2⟩
 | .cond c a b,i,h=>by
  obtain⟨h1,h2⟩:=h.two (a:=a) (b:=b) rfl rfl;exact⟨DV (by rw[h.sub,h1.ref,h2.ref]),wi r a _ h1,wi r b _ h2⟩
 | .block n a,i,h=>by
  have h1:=h.one (a:=a) rfl rfl;exact⟨DV (by rw[h.sub,h1.ref]),wi r a _ h1⟩
 | .loop n a,i,h=>by
  have h1:=h.one (a:=a) rfl rfl;exact⟨DV (by rw[h.sub,h1.ref]),wi r a _ h1⟩
 | .nG n a,i,h=>by
  have h1:=h.one (a:=a) rfl rfl;exact⟨DV (by rw[h.sub,h1.ref]),wi r a _ h1⟩
 | .rq n a,i,h=>by
  have h1:=h.one (a:=a) rfl rfl;exact⟨DV (by rw[h.sub,h1.ref]),wi r a _ h1⟩
 | .region ..,_,h=>DV h.sub
 | .skip,_,_=>trivial
 | .exit _,_,_=>trivial
 | .ret,_,_=>trivial
def aiW(r:cG):At r 0 r:=fun j _=>by rw[aK]
def Dv[kC](P:Program)(A:CA):Code->Option cG
 | .skip=>some .skip
 | .region id ops draw=>if draw then
   (tY P { A with own:=A.own.filter (1000000 <= ·) } ops [] ops.toList).bind fun l=>some (.region (qv (rl ops.toList) l 0 l) true (find A.lv id))
  else (tY P A ops [] ops.toList).bind fun l=>some (.region l false (find A.lv id))
 | .seq a b=>(Dv P A a).bind fun x=>(Dv P A b).bind fun y=>some (.seq x (Za A b y))
 | .cond c a b=>(eW c).bind fun c=>(Dv P A a).bind fun x=>(Dv P A b).bind fun y=>some (.cond c x y)
 | .block id c=>(Dv P A c).bind fun x=>some (.block id x)
 | .loop c=>(Dv P A c).bind fun x=>some (Ny A c (find A.lp (ll c)) x)
 | .exit id=>some (.exit id)
 | .ret=>some .ret
 |_=>none
def alb[kC](P:Program)(A:CA)(fn:Func):Option cG:=match fn.body with
 |some c=>Dv P A c
 |none=>none
abbrev Cv[kC](P:Program)(A:CA)(f:Func):={ g:cG // alb P A f=some g }
def okc{o:Option eJ}{n:Nat}{r:List sS}{c:cG}(h:o=some (eJ.mk n r c)):o=some (eJ.mk n r (sub c 0)):=by
 rw[h,(aiW c).sub]
def yx:=bR @eqs.eq_1 (bR @eqs.eq_2 (bR @eqs.eq_3 (bR @eqs.eq_4 (bR @eqs.eq_5 (bR @eqs.eq_6 (bR @eqs.eq_7 (bR @eqs.eq_8 (bR @eqs.eq_9 (bR @eqs.eq_10 (bR @ref.eq_1 (bR @ref.eq_2 (bR @ref.eq_3 (bR @ref.eq_4 (bR @ref.eq_5 (bR @ref.eq_6 (bR @ref.eq_7 (bR @ref.eq_8 (bR @ref.eq_9 (bR @ref.eq_10 (bR @Ap.eq_1 (bR @Ap.eq_2 (bR @Ap.eq_3 (bR @Ap.eq_4 (bR @Ap.eq_5 (bR @Ap.eq_6 (bR @Ap.eq_7 (bR @Ap.eq_8 (bR @Ap.eq_9 (bR @Ap.eq_10 (bR @CI.eq_1 (bR @CI.eq_2 (bR @CI.eq_3 (bR @CI.eq_4 (bR @CI.eq_5 (bR @CI.eq_6 (bR @CI.eq_7 (bR @CI.eq_8 (bR @CI.eq_9 (bR @CI.eq_10 (bR @cG.size.eq_1 (bR @cG.size.eq_2 (bR @cG.size.eq_3 (bR @cG.size.eq_4 (bR @cG.size.eq_5 (bR @cG.size.eq_6 (bR @cG.size.eq_7 (bR @cG.size.eq_8 (bR @cG.size.eq_9 (bR @cG.size.eq_10 (bR @pP (@true_and)))))))))))))))))))))))))))))))))))))))))))))))))))
end
end Go.Abs
namespace Go.Proofs.YteoamaffclmdbaaGreatDoor
open Go Go.Abs
def IL:Value := .iface 215 (.agg #[.pointer (some ⟨2,99,none⟩)])
instance:kC where
 g:=fun b=>match b with
  |0=>some [IL]
  |_=>none
 u8:=5
def al5:Func:={ name := "",origin := "",params := #[],resultTypes := #[],nfree:=0,ntmps:=0,results := #[],body:=some .skip,norace:=false,tmpNames := #[] }
noncomputable def anU:Program:={ toTables:={ goVersion := "",platform := "",initOrder := "",godebug := "",types:=Tryz.types,rt:=Tryz.progTables.rt,cutTypes := #[],globals := #[],inits := #[],main:=0 },funcs:=⟨List.replicate 900 al5⟩ }
abbrev Ko(own:List Nat)(f:Func):=Cv anU (Fq own f) f
def eN{A:List Nat}{f:Func}(h:Ko A f:=by apply Subtype.mk; cbv):=h
abbrev sR(own:List Nat)(f:Func)(c:eJ):Prop:=pg Tryz.prog (Fq own f) f=some c
section
open Go.ChangeShapes Go.WideShapes Go.RowKit
def aua:ownKnob Tryz.prog.godebug=none:=fu
abbrev VA:List (String×DataW Unit):=[("errors.errorType",Rows.laid_errors_errorType)]
def SZ:J:=⟨fun _=>none,fun _ _=>False⟩
def aug(W:World):Rel SZ [] W where
 inj:=fun _ _ _ h=>by cases h
 lt:=fun _ _ h=>by cases h
 fix:=fun _ _ h=>by cases h
 tick:=fun _ _ _ _ h=>by cases h
 arr:=fun _ _ _ _ h=>by cases h
 vk:=fun _ _ h=>by cases h
 AF:=fun _ _ h=>h.elim
def MH{w:World}{b off:Nat}{v:Value}(h:w.cell? ⟨b,off,none⟩=some v):b<w.heap.size:=by
 rcases bC b w.heap.size with hb|hb
 ·exact hb
 ·simp[World.cell?,iv hb] at h
def ahz:((List.range Tryz.prog.types.size).filter fun t=>Tryz.prog.rowNamed t [101,114,114,111,114])=[99]:=fu
theorem rtK{a:Option Nat}{u n:Nat}(e:a=some u)(h:a=some n):n=u:=Option.some.inj (h.symm.trans e)
def ame{W:World}(hL:laidMetH Tryz.prog VA W)(hsh:W.ShapedOpen Tryz.prog):sV SZ [] W:=by
 have h':laidMet Tryz.prog [] W/\handlesMet Tryz.prog VA W:=hL;obtain⟨name,u,ty,e1,e2,e3,e4,e5⟩:=h'.2 _ (bT.2 rfl);have en:name=[101,114,114,111,114]:=(oQ e1).symm;subst en;obtain rfl:=rtK e2 (n:=215) (by kernel_rfl)
 have hm:ty∈(List.range Tryz.prog.types.size).filter fun t=>Tryz.prog.rowNamed t [101,114,114,111,114]:=eo.2 ⟨gj.2 e3,e4⟩
 rw[ahz] at hm;obtain rfl:=bT.1 hm;rw[show typeHandle Tryz.prog 99 = .pointer (some ⟨2,99,none⟩) by kernel_rfl] at e5
 have hc:W.cell? ⟨0,0,none⟩=some IL:=by simpa[IL] using World.var?_cell (show Tryz.prog.globalNamed "errors.errorType" = some 0 by kernel_rfl) e5 0
 obtain⟨⟨zero,t'⟩,hz,he⟩:=aV.1 (show(((begin Tryz.prog (fun _ _=>0) default).world.heap[0]?).bind Obj.row?).map (fun x=>x.1.size)=some 1 by kernel_rfl)
 obtain⟨cs,h1,h2,_⟩:=hsh.1 0 zero t' (jV fu) hz;refine⟨fun b vs k v hb hk=>?_,fun b vs hb=>?_,fun b p hb=>by cases hb⟩
 ·match b,hb with
  |0,hb =>
   cases hb
   match k,hk with
   |0,hk=>cases hk; exact⟨⟨MH hc,fun id hid=>by simp at hid,fun h=>h⟩,hc⟩
 ·match b,hb with
  |0,hb=>cases hb; exact⟨cs,_,_,h1,h2.trans he⟩
noncomputable def yc(os:Os):World :=
 let w0:=World.holding Tryz.prog os ⟨#[],#[],[]⟩
 { w0 with heap:=w0.heap.modify 0 fun
   | .cells _ t frozen => .cells #[IL] t frozen
   |o=>o }
def VB(os:Os)(args:Array Value):laidMetH Tryz.prog VA ((yc os).forCall (fun _ _=>0) ⟨#[],args,[]⟩).memory :=
 laidMetH_of_parts (laidMet_nil _ _) fu
end
end Go.Proofs.YteoamaffclmdbaaGreatDoor
