import Derived.Test.YtcbopkblmebjiaaGreatDoorCards
import Derived.LaidHandle
import Derived.Lib.LaidU8
import Derived.Deep.DeepWitnessRowRef
import Derived.ProofKit
import Derived.SizedLaws
import Derived.OpenShut
import Derived.Deep.Fields
import Derived.Shelf.Vars
import Derived.Lib.LaidIn
set_option linter.all false
namespace Go
def sN{α:Type}{o:Option α}{a b:α}(h:o=some a)(e:a=b:=by kernel_rfl):o=some b:=h.trans (congrArg some e)
def aM{p:Prop}(h:p:=by omega):=h
def ic{p:Prop}(h:p:=by simp;omega):=h
def dk{p:Prop}(h:p:=by simp):=h
def gd{p:Prop}(h:p:=by kernel_rfl):=h
def kW{p:Prop}(h:p:=by grind):=h
def pd{p:Prop}(h:p:=by decide):=h
def cn{a b:Prop}(x:a)(y:b):=And.intro x y
def u8w{a b c d e f g h i:Prop}(A:a)(B:b)(C:c)(D:d)(E:e)(F:f)(G:g)(H:h)(I:i):=cn A (cn B (cn C (cn D (cn E (cn F (cn G (cn H I)))))))
def du:=@Array.getD_eq_getD_getElem?
def cy:=@Array.getElem?_append_left
def bf:=@Array.getElem?_eq_getElem
def ik:=@Array.getElem?_eq_none
def fy:=@Array.getElem?_eq_some_iff
def iy:=@Array.getElem?_map
def ft:=@Array.getElem?_modify
def fR:=@Array.getElem?_push
def fi:=@Array.getElem?_setIfInBounds_ne
def gX:=@Array.getElem?_setIfInBounds_self
def lj:=@Array.mapM_eq_mapM_toList
def jz:=@Array.replicate_succ
def jA:=@Array.replicate_zero
def fU:=@Array.size_append
def lA:=@Array.size_range
def bm:=@Bool.and_eq_true
def di:=@Bool.and_false
def fW:=@Bool.and_true
def mO:=@Bool.eq_false_iff
def er:=@Bool.eq_iff_iff
def cp:=@Bool.false_and
def af:=@Bool.false_eq_true
def dE:=@Bool.false_or
def kO:=@Bool.not_eq_false
def gF:=@Bool.not_eq_true'
def dG:=@Bool.not_false
def cG:=@Bool.not_true
def iE:=@Bool.or_eq_false_iff
def cV:=@Bool.or_eq_true
def fE:=@Bool.or_false
def dK:=@Bool.or_self
def dz:=@Bool.or_true
def b9:=@Bool.true_and
def dL:=@Bool.true_or
def kP:=@Decidable.not_not
def dj:=@Eq.trans
def pD:=@Iff.rfl
def cJ:=@Int.le_refl
def aX:=@Int.lt_irrefl
def mD:=@Int.lt_or_le
def ec:=@Int.natCast_nonneg
def gu:=@Int.natCast_zero
def nh:=@Int.not_lt
def bj:=@Int.toNat_natCast
def oD:=@Int.toNat_of_nonneg
def nM:=@List.Pairwise.filter
def ku:=@List.all_cons
def bF:=@List.all_eq_true
def pQ:=@List.any_cons
def dW:=@List.append_assoc
def iJ:=@List.append_cancel_left
def cu:=@List.append_nil
def jQ:=@List.append_toArray
def gP:=@List.concat_eq_append
def bp:=@List.cons_append
def kH:=@List.countP_le_length
def oE:=@List.countP_pos_iff
def lH:=@List.dropWhile_cons
def cN:=@List.drop_eq_getElem_cons
def jc:=@List.drop_eq_nil_of_le
def gY:=@List.drop_length
def il:=@List.drop_of_length_le
def oG:=@List.drop_succ_cons
def cK:=@List.eq_nil_of_length_eq_zero
def fV:=@List.eq_nil_or_concat
def lI:=@List.eq_of_mem_replicate
def fz:=@List.exists_cons_of_ne_nil
def dA:=@List.ext_getElem?
def jo:=@List.filterMap_append
def jR:=@List.filterMap_cons
def jk:=@List.filterMap_nil
def eR:=@List.filter_cons
def lW:=@List.filter_cons_of_pos
def gG:=@List.filter_eq_self
def oH:=@List.filter_sublist
def eJ:=@List.find?_eq_none
def lJ:=@List.flatMap_append
def jS:=@List.flatMap_eq_nil_iff
def kQ:=@List.foldl_append
def bB:=@List.foldl_cons
def ia:=@List.foldl_nil
def db:=@List.getD_eq_getElem?_getD
def nN:=@List.getElem?_append
def bh:=@List.getElem?_append_left
def bA:=@List.getElem?_append_right
def dX:=@List.getElem?_cons_succ
def eu:=@List.getElem?_cons_zero
def cZ:=@List.getElem?_drop
def ai:=@List.getElem?_eq_getElem
def gQ:=@List.getElem?_eq_none
def au:=@List.getElem?_eq_some_iff
def bb:=@List.getElem?_map
def bX:=@List.getElem?_of_mem
def eA:=@List.getElem?_range
def jT:=@List.getElem?_replicate
def fF:=@List.getElem?_set_ne
def eF:=@List.getElem?_set_self
def gk:=@List.getElem?_take
def bM:=@List.getElem?_take_of_lt
def jf:=@List.getElem_mem
def jU:=@List.getElem_of_mem
def lk:=@List.getLast?_eq_none_iff
def ll:=@List.getLast?_eq_some_iff
def ji:=@List.isPrefixOf_iff_prefix
def aR:=@List.length_append
def aD:=@List.length_cons
def jg:=@List.length_drop
def cf:=@List.length_eq_zero_iff
def fg:=@List.length_filterMap_le
def eN:=@List.length_filter_le
def az:=@List.length_map
def aF:=@List.length_nil
def iY:=@List.length_pos_iff
def jB:=@List.length_range
def eD:=@List.length_set
def fL:=@List.length_take
def bH:=@List.map_append
def cj:=@List.map_congr_left
def a8:=@List.map_cons
def fY:=@List.map_map
def bE:=@List.map_nil
def jZ:=@List.map_set
def jC:=@List.map_take
def bC:=@List.mem_append
def fG:=@List.mem_append_left
def iu:=@List.mem_append_right
def ba:=@List.mem_cons
def aP:=@List.mem_cons_of_mem
def aG:=@List.mem_cons_self
def fj:=@List.mem_filter
def ml:=@List.mem_filterMap
def gv:=@List.mem_flatMap
def cm:=@List.mem_map
def aU:=@List.mem_of_getElem?
def dQ:=@List.mem_of_mem_drop
def cR:=@List.mem_of_mem_take
def lq:=@List.mem_or_eq_of_mem_set
def gH:=@List.mem_range
def bU:=@List.mem_singleton
def bw:=@List.nil_append
def kR:=@List.nodup_append
def iK:=@List.nodup_cons
def kY:=@List.nodup_nil
def cC:=@List.pairwise_append
def bR:=@List.pairwise_cons
def cB:=@List.pairwise_iff_getElem
def iL:=@List.pairwise_map
def jV:=@List.pairwise_singleton
def mn:=@List.prefix_append
def iv:=@List.prefix_refl
def kS:=@List.push_toArray
def nP:=@List.range_eq_range'
def kv:=@List.range_succ
def iZ:=@List.replicate_succ
def nQ:=@List.replicate_succ'
def dI:=@List.size_toArray
def fu:=@List.takeWhile_cons
def eU:=@List.take_add_one
def c9:=@List.take_append_drop
def gI:=@List.take_append_of_le_length
def oI:=@List.take_left'
def bT:=@List.take_length
def bS:=@List.take_of_length_le
def oJ:=@List.take_succ_cons
def cg:=@Nat.add_mul
def dn:=@Nat.add_sub_cancel'
def iM:=@Nat.add_sub_cancel_left
def dq:=@Nat.add_zero
def kJ:=@Nat.div_lt_iff_lt_mul
def eL:=@Nat.eq_zero_or_pos
def nF:=@Nat.le_add_right
def fA:=@Nat.le_mul_of_pos_right
def ak:=@Nat.le_refl
def iP:=@Nat.le_succ_of_le
def bg:=@Nat.le_trans
def ja:=@Nat.lt_irrefl
def bz:=@Nat.lt_of_lt_of_le
def bK:=@Nat.lt_or_ge
def iQ:=@Nat.lt_trichotomy
def lM:=@Nat.mod_lt
def bd:=@Nat.mul_le_mul_right
def gA:=@Nat.ne_of_lt
def kx:=@Nat.not_lt_zero
def fM:=@Nat.one_mul
def lX:=@Nat.sub_mul
def cd:=@Nat.sub_zero
def mF:=@Nat.succ_mul
def aN:=@Nat.zero_add
def ct:=@Nat.zero_le
def jv:=@Nat.zero_mul
def dM:=@Ne.symm
def dv:=@Option.bind_eq_some_iff
def nG:=@Option.getD_none
def bQ:=@Option.getD_some
def gU:=@Option.isSome_iff_exists
def jl:=@Option.isSome_none
def dD:=@Option.isSome_some
def aW:=@Option.map_eq_some_iff
def lY:=@Option.map_none
def cW:=@Option.map_some
def ky:=@Option.some.inj
def iR:=@Option.some.injEq
def ig:=@Prod.ext
def kK:=@UInt8.lt_iff_toNat_lt
def oL:=@UInt8.lt_irrefl
def iT:=@UInt8.toNat_inj
def j4:=@and_self
def ck:=@beq_eq_false_iff_ne
def eG:=@beq_iff_eq
def iw:=@beq_self_eq_true
def jN:=@bne_iff_ne
def an:=@bne_self_eq_false
def da:=@decide_eq_false
def eP:=@decide_eq_false_iff_not
def fZ:=@decide_eq_true
def bt:=@decide_eq_true_eq
def fH:=@eq_iff_iff
def mG:=@getElem!_pos
def aC:=@if_false
def aj:=@if_neg
def av:=@if_pos
def aE:=@if_true
def oM:=@iff_false
def j5:=@iff_true
def mP:=@not_false_eq_true
def kB:=@not_or
def aZ:=@of_decide_eq_false
def bN:=@of_decide_eq_true
end Go
namespace Go.Abs
section
open Go
inductive Tk where
 |sh|c0|own (k:Nat)
 deriving DecidableEq,Repr
inductive ag where
 |bool (b:Bool)
 |int (k:IntKind) (n:Int)
 |str (s:List UInt8)
 |slice (tk:Tk) (xs:List ag)
 |agg (cs:List ag)
 |tuple (vs:List ag)
 |ptr (id off:Nat)
 |ju (cs:List ag)
 |func (f:Nat) (caps:List ag)
 |gJ (id:Nat)
 |jI (id:Nat)
 |iB (ks vs:List ag)
 |cY (id ver sz lo hi:Nat)
 |iI (id ver i off:Nat)
 |rP (f:Nat) (fs:List ag)
 |jX (t id off:Nat)
 |raw (v:Value)
 |oU (v:Value)
 |any
 deriving Inhabited
def ag.jG:ag->Bool
 | .oU _=>true
 | .bool _ | .int .. | .str _ | .slice .. | .agg _ | .tuple _ | .ptr .. | .ju _ | .func .. | .gJ _ | .jI _ | .iB .. | .cY .. | .iI .. | .rP .. | .jX .. | .raw _ | .any=>false
abbrev aH(n:Int):ag:=.int .i64 n
abbrev ka(l:List ag):ag:=.slice .sh l
abbrev dC(n:Nat):ag:=.ptr n 0
inductive dg where
 |cells (cs:List ag)
 |tick (sz n:Nat)
 |map (ks vs:List ag)
 |nW (s:List UInt8) (pos:Nat)
 |arr (sz ver:Nat) (xs:List ag)
 |vM
def dg.tag:dg->Nat
 | .cells _=>0
 | .tick sz _=>sz+3
 | .map _ _=>1
 | .nW _ _=>2
 | .arr sz _ _=>sz+3
 | .vM=>3
def dg.fixed:dg->Bool
 | .tick _ _ | .arr _ _ _ | .vM=>false
 |_=>true
def dg.loose:dg->Bool
 | .tick _ _ | .arr _ _ _=>true
 |_=>false
abbrev cL(l:List ag):dg:=.cells l
abbrev aO:=List dg
abbrev Env:=List (Nat×ag)
def bP{α β:Type}(x:Option α)(f:α->Option β):Option β:=match x with
 |some a=>f a
 |none=>none
@[congr] theorem ZJ {α β:Type} {x x':Option α} {f:α->Option β} (h:x=x'):bP x f=bP x' f:=by rw[h]
@[simp] theorem cq {α β:Type} (a:α) (f:α->Option β):bP (some a) f=f a:=rfl
@[simp] theorem adE {α β:Type} (f:α->Option β):bP none f=none:=rfl
def zk{α:Type}(b:Bool)(x y:Option α):Option α:=match b with
 |true=>x
 |false=>y
@[congr] theorem aet {α:Type} {b b':Bool} {x y:Option α} (h:b=b'):zk b x y=zk b' x y:=by rw[h]
@[simp] theorem uu {α:Type} (x y:Option α):zk true x y=x:=rfl
@[simp] theorem mL {α:Type} (x y:Option α):zk false x y=y:=rfl
@[simp] theorem OB {α β:Type} (b:Bool) (x y:Option α) (f:α->Option β):bP (zk b x y) f=zk b (bP x f) (bP y f):=by cases b<;>rfl
open Classical in
noncomputable def cH{α:Type}(p:Prop)(x:Option α):Option α:=if p then x else none
@[congr] theorem ZL {α:Type} {p p':Prop} {x:Option α} (h:p=p'):cH p x=cH p' x:=by rw[h]
theorem gm{α:Type}{p:Prop}{x:Option α}(h:p):cH p x=x:=av h
@[simp] theorem K5 {α:Type} (x:Option α):cH True x=x:=if_pos trivial
@[simp] theorem ZM {α:Type} (x:Option α):cH False x=none:=if_neg not_false
@[simp] theorem ZK {α β:Type} (p:Prop) (x:Option α) (f:α->Option β):bP (cH p x) f=cH p (bP x f):=by
 unfold cH; split<;>rfl
def gW:Env->Nat->ag
 | [],_ => .any
 |(k,v)::e,t=>if k=t then v else gW e t
def ag.cells:ag->List ag
 | .agg cs=>cs
 |x=>[x]
def ag.j9:ag->Bool
 | .agg _ | .tuple _ | .any | .oU _=>false
 | .raw v=>match v with | .agg _ | .tuple _=>false|_=>true
 |_=>true
def ag.cells?:ag->Option (List ag)
 | .agg cs=>some cs
 | .tuple _ | .any | .oU _=>none
 | .raw (.agg _)=>none
 |x=>some [x]
def ag.shut:ag->ag
 | .slice _ xs => .slice .sh xs
 |x=>x
def ag.gj:ag->ag
 | .slice _ xs => .slice .sh xs
 | .agg cs => .agg (cs.map ag.shut)
 |x=>x
def ag.plainCell:ag->Bool
 | .bool _ | .int .. | .str _=>true
 | .slice .sh _=>true
 | .raw v=>match v with | .pointer none | .nilFunc | .nilIface | .map none | .func _ ⟨[]⟩ ⟨[]⟩=>true|_=>false
 |_=>false
def ag.plain:ag->Bool
 | .agg cs=>cs.all ag.plainCell
 |x=>x.plainCell
def ag.jD(bZ:Nat)(M:aO):ag->ag
 | .slice (.own k) xs=>if k<bZ then .slice (.own k) xs else .slice .sh xs
 | .ptr id off=>if id<bZ then .ptr id off else .any
 | .gJ id=>if id<bZ then .gJ id else .any
 | .jI id=>if id<bZ then .jI id else .any
 | .cY id ver sz lo hi=>if id<bZ then .cY id ver sz lo hi else match M[id]? with
  |some (.arr _ v xs)=>if v=ver then .slice .sh ((xs.take hi).drop lo) else .any
  |_ => .any
 | .iI id ver i off=>if id<bZ then .iI id ver i off else .any
 | .jX t id off=>if id<bZ then .jX t id off else .any
 | .func _ _ | .agg _ | .tuple _ => .any
 |x=>x
def ag.kG(bZ:Nat)(M:aO):ag->ag
 | .func f caps => .func f (caps.map (ag.jD bZ M))
 |x=>x.jD bZ M
def ag.jL(bZ:Nat)(M:aO):ag->ag
 | .agg cs => .agg (cs.map (ag.kG bZ M))
 |x=>x.kG bZ M
def ag.lN(bZ:Nat)(M:aO):ag->ag
 | .tuple vs => .tuple (vs.map (ag.jL bZ M))
 |x=>x.jL bZ M
def dg.back(bZ:Nat)(M:aO):dg->dg
 | .cells cs => .cells (cs.map (ag.kG bZ M))
 | .tick sz n => .tick sz n
 | .map ks vs => .map ks (vs.map (ag.jL bZ M))
 | .nW s p => .nW s p
 | .arr sz v xs => .arr sz v xs
 | .vM => .vM
def j6(bZ:Nat)(M:aO):aO:=(M.take bZ).map (dg.back bZ M)
def wD(bZ:Nat)(M:aO)(bq:Env):Env:=bq.map fun x=>(x.1,x.2.lN bZ M)
def ag.j8(bZ:Nat)(M:aO):ag->ag
 | .slice _ xs => .slice .sh xs
 | .gJ id=>if id<bZ then .gJ id else match M[id]? with
  |some (.map ks vs)=>if vs.all ag.plain&&ks.all ag.plainCell then .iB ks vs else .any
  |_ => .any
 |x=>x.kG bZ M
def ag.kC(bZ:Nat)(M:aO):ag->ag
 | .agg cs => .agg (cs.map (ag.j8 bZ M))
 |x=>x.j8 bZ M
def ag.mR(bZ:Nat)(M:aO):ag->ag
 | .tuple vs => .tuple (vs.map (ag.kC bZ M))
 |x=>x.kC bZ M
def ag.iz:ag->List Nat
 | .ptr id _ | .gJ id | .jI id | .cY id _ _ _ _ | .iI id _ _ _=>[id]
 | .slice (.own k) _=>[k]
 | .jX _ id _=>[id]
 |_=>[]
def ag.oZ:ag->List Nat
 | .func _ caps=>caps.flatMap ag.iz
 |x=>x.iz
def ag.ids:ag->List Nat
 | .agg cs=>cs.flatMap ag.oZ
 |x=>x.oZ
def ag.HT:ag->Bool
 | .func _ _ | .agg _ | .tuple _=>false
 |_=>true
def ag.xc:ag->Bool
 | .func _ caps=>caps.all ag.HT
 | .agg _ | .tuple _=>false
 |_=>true
def ag.flat:ag->Bool
 | .agg cs=>cs.all ag.xc
 |x=>x.xc
def dg.flat:dg->Bool
 | .vM=>false
 | .cells cs=>cs.all ag.xc
 | .map _ vs=>vs.all ag.flat
 |_=>true
def ag.uZ(ρ:Nat->Nat):ag->ag
 | .ptr id off => .ptr (ρ id) off
 | .gJ id => .gJ (ρ id)
 | .jI id => .jI (ρ id)
 | .cY id v sz lo hi => .cY (ρ id) v sz lo hi
 | .iI id v i off => .iI (ρ id) v i off
 | .slice (.own k) xs => .slice (.own (ρ k)) xs
 | .jX t id off => .jX t (ρ id) off
 |x=>x
def ag.uC(ρ:Nat->Nat):ag->ag
 | .func f caps => .func f (caps.map (ag.uZ ρ))
 |x=>x.uZ ρ
def ag.rn(ρ:Nat->Nat):ag->ag
 | .agg cs => .agg (cs.map (ag.uC ρ))
 |x=>x.uC ρ
def ag.B6(ρ:Nat->Nat):ag->ag
 | .tuple vs => .tuple (vs.map (ag.rn ρ))
 |x=>x.rn ρ
def ag.yn:ag->Bool
 | .tuple vs=>vs.all ag.flat
 |x=>x.flat
def dg.rn(ρ:Nat->Nat):dg->dg
 | .cells cs => .cells (cs.map (ag.uC ρ))
 | .map ks vs => .map ks (vs.map (ag.rn ρ))
 |b=>b
def dg.ids:dg->List Nat
 | .cells cs=>cs.flatMap ag.oZ
 | .map _ vs=>vs.flatMap ag.ids
 |_=>[]
def nth{α:Type}:List α->Nat->Option α
 | [],_=>none
 |a::_,0=>some a
 |_::l,n+1=>nth l n
def jY{α:Type}:List α->Nat->α->List α
 | [],_,_=>[]
 |_::l,0,x=>x::l
 |a::l,n+1,x=>a::jY l n x
def mB:List Nat->List Nat->List Nat
 |a,[]=>a
 |a,x::r=>mB (if a.contains x then a else a++[x]) r
def tj(M:aO):List Nat->List Nat
 | []=>[]
 |i::r=>(match nth M i with|some b=>b.ids|none=>[])++tj M r
def mC(M:aO)(acc:List Nat):List Nat:=mB acc (tj M acc)
def reach(M:aO)(l:List Nat):List Nat:=mC M (mC M (mC M (mB [] l)))
def jb:List Nat->Nat->Nat
 | [],_=>0
 |a::l,x=>if a=x then 0 else jb l x+1
def yf(ids:List Nat)(i:Nat):Nat:=(nth ids i).getD 0
def kV(M:aO)(ρ:Nat->Nat):List Nat->Option aO
 | []=>some []
 |i::r=>match nth M i with
  |some b=>if b.flat then bP (kV M ρ r) fun l=>some (b.rn ρ::l) else none
  |none=>none
def ny(ids:List Nat)(M:aO):List Nat->aO->aO
 |i::r,b::l=>ny ids (jY M i (b.rn (yf ids))) r l
 |_,_=>M
def ag.pG(M:aO):ag->ag
 | .cY id ver sz lo hi=>match nth M id with
  |some (.arr _ v xs)=>if v=ver then .slice .sh ((xs.take hi).drop lo) else .any
  |_ => .any
 |x=>x
def ag.sZ(M:aO):ag->ag
 | .agg cs => .agg (cs.map (ag.pG M))
 |x=>x.pG M
def vm(M:aO):List Nat->aO
 | []=>M
 |i::r=>match nth M i with
  |some (.arr sz _ xs)=>vm (jY M i (.tick sz xs.length)) r
  |_=>vm M r
inductive gw where
 |tmp (t:Nat)
 |kj (v:ag)
def gw.ev(bq:Env):gw->ag
 | .tmp t=>gW bq t
 | .kj v=>v
inductive M6 where
 |add|sub|mul|quo|rem|eql|neq|lss|leq|gtr|geq|shl|shr|and|or|bic
 deriving DecidableEq,Repr
inductive FK where
 |i|s|b
 deriving DecidableEq
inductive kb where
 |mv (x:gw)
 |own (sz:Nat) (x:gw)
 |pick (c a b:gw)
 |sv (cs:List ag)
 |box (x:gw)
 |build (zero:List ag) (parts:List (Nat×Nat×gw))
 |lits (sz:Nat) (parts:List gw)
 |E9 (sz:Nat) (parts:List gw)
 |kl (n:Nat) (x:gw)
 |mY (x:gw)
 |store (n:Nat) (a x:gw)
 |Bk (sz p n:Nat) (a x:gw)
 |chk (x:gw)
 |bin (op:M6) (x y:gw)
 |VP (ks:List FK) (neg:Bool) (x y:gw)
 |eqB (neg:Bool) (x y:gw)
 |not (x:gw)
 |neg (x:gw)
 |conv (k:IntKind) (x:gw)
 |same (x:gw)
 |fn (f:Nat) (caps:List gw)
 |Ep (f:Nat) (firsts:List gw)
 |Bh (x:gw) (lo hi:Option gw)
 |uz (sz:Nat) (x:gw) (lo hi mx:Option gw)
 |NF (sz:Nat) (x hi:gw)
 |pX (off:Nat) (x:gw)
 |CX (off n:Nat) (x:gw)
 |CW (off:Nat) (x:gw)
 |rD (sz:Nat) (x i:gw)
 |AP (n sz:Nat) (x i:gw)
 |AQ (x i:gw)
 |extract (x:gw) (i:Nat)
 |call (f:Nat) (args:List gw)
 |sy (f:gw) (args:List gw)
 |Bw (f:gw) (args:List gw)
 |Bv (f:Nat) (args:List gw)
 |mS (f:Nat) (args:List gw)
 |wE (f:Nat) (args:List gw)
 |w5 (sz:Nat) (zero:List ag) (x:gw)
 |Tr (x:gw)
 |vu (x:gw)
 |append (sz bytes:Nat) (x y:gw)
 |A6 (mx:Bool) (x y:gw)
 |b2s (x:gw)
 |mkMap
 |look (fk:FK) (zero:ag) (ok:Bool) (m k:gw)
 |gD (fk:FK) (m k v:gw)
 |Oo (m:gw)
 |OY (x:gw)
 |Fo (it:gw)
 |iface (t:Nat) (x:gw)
 |raise (x:gw)
 |mkS (zero:List ag) (n:gw)
 |Oy (zero:List ag) (n:gw)
 |xE (sz bytes:Nat) (zero:List ag) (x n:gw)
 |vP (sz bytes:Nat) (x y:gw)
 |Ex (sz:Nat) (x y:gw)
 |Nr (sz:Nat)
structure cX where
 dst:Option Nat
 op:kb
 guard:Option (Nat×Bool)
 grow:Bool:=false
 xm:Bool:=false
 sep:List Nat:=[]
 stop:Bool:=true
def ob(d:Nat)(o:kb):cX:=⟨some d,o,none,false,false,[],true⟩
def og(d g:Nat)(b:Bool)(o:kb):cX:=⟨some d,o,some (g,b),false,false,[],true⟩
def ox(o:kb):cX:=⟨none,o,none,false,false,[],true⟩
def kb.P2:kb->Bool
 | .call .. | .sy .. | .Bw .. | .Bv .. | .mS .. | .raise _=>true
 |_=>false
inductive cD where
 |skip
 |region (ops:List cX) (draw:Bool) (live:List Nat)
 |seq (a b:cD)
 |cond (c:gw) (x y:cD)
 |block (id:Nat) (c:cD)
 |loop (live:List Nat) (c:cD)
 |mw (live:List Nat) (c:cD)
 |sZ (t:Nat) (c:cD)
 |exit (id:Nat)
 |ret
inductive X8 where
 |normal|exit (id:Nat)|ret|oU (v:Value)
abbrev eO:=Nat->List ag->aO->Option (ag×aO)
def strLt:List UInt8->List UInt8->Bool
 |_,[]=>false
 | [],_::_=>true
 |a::x,b::y=>a<b||(a==b&&strLt x y)
def alY(k:IntKind)(a b:Int):Int:=k.wrap (BitVec.ofInt k.bits a &&& BitVec.ofInt k.bits b).toNat
def ior(k:IntKind)(a b:Int):Int:=k.wrap (BitVec.ofInt k.bits a ||| BitVec.ofInt k.bits b).toNat
def abA(k:IntKind)(a b:Int):Int:=k.wrap (BitVec.ofInt k.bits a &&& ~~~BitVec.ofInt k.bits b).toNat
def Aj(b:UInt8):ag := .int .u8 b.toNat
def qR(op:M6):ag->ag->Option ag
 | .int k a,.int k' b =>
  match op with
  | .shl=>if 0<=b then some (.int k (k.wrap (a*2 ^ (min b.toNat k.bits)))) else none
  | .shr=>if 0<=b then some (.int k (a.fdiv (2 ^ (min b.toNat k.bits)))) else none
  |op=>if k≠k' then none else
   match op with
   | .add=>some (.int k (k.wrap (a+b)))
   | .sub=>some (.int k (k.wrap (a-b)))
   | .mul=>some (.int k (k.wrap (a*b)))
   | .quo=>if b=0 then none else some (.int k (k.wrap (a.tdiv b)))
   | .rem=>if b=0 then none else some (.int k (a.tmod b))
   | .eql=>some (.bool (a==b))
   | .neq=>some (.bool (a != b))
   | .lss=>some (.bool (a<b))
   | .leq=>some (.bool (a<=b))
   | .gtr=>some (.bool (a>b))
   | .geq=>some (.bool (a>=b))
   | .and=>some (.int k (alY k a b))
   | .or=>some (.int k (ior k a b))
   | .bic=>some (.int k (abA k a b))
   |_=>none
 | .str a,.str b =>
  match op with
  | .add=>if ((a.length+b.length:Nat):Int)>IntKind.i64.max then none else some (.str (a++b))
  | .eql=>some (.bool (a==b))
  | .neq=>some (.bool (a != b))
  | .lss=>some (.bool (strLt a b))
  | .leq=>some (.bool (strLt a b||a==b))
  | .gtr=>some (.bool (!(strLt a b||a==b)))
  | .geq=>some (.bool (!(strLt a b)))
  |_=>none
 |_,_=>none
def iq:FK->ag->ag->Option Bool
 | .i,.int k a,.int k' b=>if k=k' then some (a==b) else none
 | .s,.str a,.str b=>some (a==b)
 | .b,.bool a,.bool b=>some (a==b)
 |_,_,_=>none
def lK:List FK->List ag->List ag->Option Bool
 | [],[],[]=>some true
 |k::ks,a::x,b::y=>bP (iq k a b) fun e=>bP (lK ks x y) fun f=>some (e&&f)
 |_,_,_=>none
def ag.norm:ag->ag
 | .agg [c]=>c
 |x=>x
def valOf:ag->Option Value
 | .int k n=>some (.int k n)
 | .agg [.int k n]=>some (.agg #[.int k n])
 |_=>none
def bytesOf:List ag->Option (List UInt8)
 | []=>some []
 | .int .u8 n::r=>bP (bytesOf r) fun l=>some (UInt8.ofNat n.toNat::l)
 |_=>none
def td(fk:FK)(k:ag):List ag->List ag->Option (Option ag)
 | [],[]=>some none
 |k'::ks,v::vs=>bP (iq fk k k') fun b=>zk b (some (some v)) (td fk k ks vs)
 |_,_=>none
def te(fk:FK)(k v:ag):List ag->List ag->Option (List ag×List ag)
 | [],[]=>bP (iq fk k k) fun _=>some ([k],[v])
 |k'::ks,v'::vs=>bP (iq fk k k') fun b=>zk b (some (k::ks,v::vs)) (bP (te fk k v ks vs) fun x=>some (k'::x.1,v'::x.2))
 |_,_=>none
def lL(zero:ag)(ok:Bool)(r:Option ag):ag:=match ok with
 |true => .tuple [r.getD zero,.bool r.isSome]
 |false=>r.getD zero
def mapOf(M:aO):ag->Option (List ag×List ag)
 | .gJ id=>match nth M id with|some (.map ks vs)=>some (ks,vs)|_=>none
 | .iB ks vs=>some (ks,vs)
 |_=>none
def mq(cs:List ag)(off:Nat)(new:List ag):List ag:=cs.take off++(new++cs.drop (off+new.length))
def putCells(e:ag)(off:Nat)(new:List ag):ag:=match e,new with
 | .agg cs,new => .agg (mq cs off new)
 |_,[c]=>c
 |e,_=>e
def lO(bq:Env):List ag->List (Nat×Nat×gw)->Option (List ag)
 |cs,[]=>some cs
 |cs,(off,n,x)::r =>
  bP (x.ev bq).cells? fun new=>if new.length=n/\off+n<=cs.length then lO bq (mq cs off new) r else none
def tc(bq:Env)(sz:Nat):List gw->Option (List ag)
 | []=>some []
 |x::r=>if (x.ev bq).gj.plain=true/\(x.ev bq).gj.cells.length=sz then bP (tc bq sz r) fun l=>some ((x.ev bq).gj::l) else none
def ir(bq:Env)(n:Nat):Option gw->Option Int
 |none=>some n
 |some x=>match x.ev bq with | .int _ i=>some i|_=>none
def wid(xs:List ag)(sz:Nat):Prop:=∀x,x∈xs->x.cells.length=sz
def dY(n bytes:Nat):Prop:=n*bytes<=2 ^ 44
noncomputable def aL(call:eO)(f:Nat)(vs:List ag)(M:aO):Option (ag×aO) :=
 if vs.all ag.flat then
  bP (kV M (jb (reach M (vs.flatMap ag.ids))) (reach M (vs.flatMap ag.ids))) fun B =>
   if mC M (reach M (vs.flatMap ag.ids))=reach M (vs.flatMap ag.ids) then
    bP (call f (vs.map (ag.rn (jb (reach M (vs.flatMap ag.ids))))) B) fun x =>
     if x.2.length=B.length/\x.1.yn=true/\x.2.all dg.flat=true then some (x.1.B6 (yf (reach M (vs.flatMap ag.ids))),ny (reach M (vs.flatMap ag.ids)) M (reach M (vs.flatMap ag.ids)) x.2) else none
   else none
 else none
noncomputable def Bc(call:eO)(f:Nat)(vs:List ag)(M:aO):Option (ag×aO) :=
 if vs.all ag.flat=true/\vs.flatMap ag.ids=[] then
  bP (call f vs []) fun x=>match x.1,x.2 with
   | .slice (.own 0) xs,[.tick sz n]=>some (.slice (.own M.length) xs,M++[.tick sz n])
   |_,_=>none
 else none
def vz(sz L:Nat):ag:=if 500<=sz then .cY L 0 (sz-500) 0 0 else .slice (.own L) []
def wi(sz:Nat):dg:=if 500<=sz then .arr (sz-500) 0 [] else .tick sz 0
noncomputable def ei(call:eO)(bq:Env)(M:aO):kb->Option (ag×aO)
 | .mv x=>some (x.ev bq,M)
 | .own sz x =>
  match x.ev bq with
  | .slice .c0 []=>some (vz sz M.length,M++[wi sz])
  |v=>some (v,M)
 | .pick c a b=>match c.ev bq with
  | .bool t=>zk t (some (a.ev bq,M)) (some (b.ev bq,M))
  |_=>none
 | .sv cs=>some (.ptr M.length 0,M++[.cells cs])
 | .box x=>bP (x.ev bq).cells? fun cs=>some (.ptr M.length 0,M++[.cells cs])
 | .build zero parts=>bP (lO bq zero parts) fun cs=>some (.agg cs,M)
 | .lits sz parts=>bP (tc bq sz parts) fun l=>some (match l with|[] => .slice .c0 []|_ => .slice .sh l,M)
 | .E9 sz parts=>bP (tc bq sz parts) fun l=>some (.slice (.own M.length) l,M++[.tick sz l.length])
 | .kl n x =>
  match x.ev bq with
  | .ptr id off=>match nth M id with
   |some (.cells cs)=>if off+n<=cs.length then some (.agg ((cs.drop off).take n),M) else none
   |_=>none
  | .ju cs=>if n<=cs.length then some (.agg (cs.take n),M) else none
  | .iI id ver i off=>match nth M id with
   |some (.arr _ v xs)=>if v=ver then bP (xs[i]?) fun e=>if off+n<=e.cells.length then some (.agg ((e.cells.drop off).take n),M) else none else none
   |_=>none
  |_=>none
 | .mY x =>
  match x.ev bq with
  | .ptr id off=>match nth M id with
   |some (.cells cs)=>bP (nth cs off) fun c=>some (c,M)
   |_=>none
  | .ju cs=>bP (nth cs 0) fun c=>some (c,M)
  | .iI id ver i off=>match nth M id with
   |some (.arr _ v xs)=>if v=ver then bP (xs[i]?) fun e=>bP (nth e.cells off) fun c=>some (c,M) else none
   |_=>none
  |_=>none
 | .store n a x =>
  match a.ev bq with
  | .ptr id off=>match nth M id with
   |some (.cells cs)=>bP (x.ev bq).cells? fun new =>
    if new.length=n/\off+n<=cs.length/\new.all ag.j9=true then some (.any,jY M id (.cells (mq cs off new))) else none
   |_=>none
  | .iI id ver i off=>match nth M id with
   |some (.arr sz v xs)=>bP (x.ev bq).cells? fun new=>bP (xs[i]?) fun e =>
    if v=ver/\new.length=n/\off+n<=e.cells.length/\(new.map ag.shut).all ag.plainCell=true then some (.any,jY M id (.arr sz ver (jY xs i (putCells e off (new.map ag.shut))))) else none
   |_=>none
  |_=>none
 | .Bk sz p n a x =>
  match a.ev bq with
  | .ptr id off=>match nth M id with
   |some (.cells cs)=>bP (x.ev bq).cells? fun new =>
    match nth new p with
    |some (.slice .c0 [])=>if new.length=n/\off+n<=cs.length/\new.all ag.j9=true then some (.any,jY M id (.cells (mq cs off (jY new p (vz sz M.length))))++[wi sz]) else none
    |_=>none
   |_=>none
  |_=>none
 | .chk x=>match x.ev bq with
  | .ptr id off=>some (.ptr id off,M)
  | .ju cs=>some (.ju cs,M)
  | .func f caps=>some (.func f caps,M)
  | .iI id v i off=>some (.iI id v i off,M)
  |_=>none
 | .bin op x y=>bP (qR op (x.ev bq) (y.ev bq)) fun v=>some (v,M)
 | .VP ks neg x y =>
  match x.ev bq,y.ev bq with
  | .agg a,.agg b=>bP (lK ks a b) fun e=>some (.bool (match neg with|true => !e|false=>e),M)
  |_,_=>none
 | .eqB neg x y=>match x.ev bq,y.ev bq with
  | .bool a,.bool b=>some (.bool (match neg with|true => !(a==b)|false=>a==b),M)
  |_,_=>none
 | .not x=>match x.ev bq with | .bool b=>some (.bool (!b),M)|_=>none
 | .neg x=>match x.ev bq with | .int k n=>some (.int k (k.wrap (0-n)),M)|_=>none
 | .conv k x=>match x.ev bq with | .int _ n=>some (.int k (k.wrap n),M)|_=>none
 | .same x=>match x.ev bq with | .str s=>some (.str s,M)|_=>none
 | .fn f caps=>some (.func f (caps.map (gw.ev bq)),M)
 | .Ep f firsts=>if (firsts.map fun x=>(x.ev bq).gj).all ag.plain then some (.rP f (firsts.map fun x=>(x.ev bq).gj),M) else none
 | .Bh x lo hi =>
  match x.ev bq with
  | .str s=>bP (ir bq s.length hi) fun h=>bP (ir bq 0 lo) fun l =>
   cH (0<=h/\h<=s.length/\0<=l/\l<=h) (some (.str ((s.take h.toNat).drop l.toNat),M))
  |_=>none
 | .uz sz x lo hi mx =>
  match x.ev bq with
  | .slice _ xs=>cH (wid xs sz) <| bP (ir bq xs.length hi) fun h=>bP (ir bq 0 lo) fun l =>
   match mx with
   |none=>cH (0<=h/\h<=xs.length/\0<=l/\l<=h) (some (.slice .sh ((xs.take h.toNat).drop l.toNat),M))
   |some m=>match m.ev bq with
    | .int _ m=>cH (0<=m/\m<=xs.length/\0<=h/\h<=m/\0<=l/\l<=h)
      (zk (m==0) (some (.slice .c0 [],M)) (some (.slice .sh ((xs.take h.toNat).drop l.toNat),M)))
    |_=>none
  | .cY id v sz' al ah=>cH (sz'=sz) <| bP (ir bq (ah-al) hi) fun h=>bP (ir bq 0 lo) fun l =>
   match mx with
   |none=>cH (0<=h/\h<=(ah-al:Nat)/\0<=l/\l<=h) (zk (l==h) (some (.slice .sh [],M)) (some (.cY id v sz (al+l.toNat) (al+h.toNat),M)))
   |some m=>match m.ev bq with
    | .int _ m=>cH (0<=m/\m<=(ah-al:Nat)/\0<=h/\h<=m/\0<=l/\l<=h)
      (zk (m==0) (some (.slice .c0 [],M)) (zk (l==h) (some (.slice .sh [],M)) (some (.cY id v sz (al+l.toNat) (al+h.toNat),M))))
    |_=>none
  |_=>none
 | .NF sz x hi =>
  match x.ev bq,hi.ev bq with
  | .cY id v sz' lo ah,.int _ h=>cH (sz'=sz/\lo=0/\0<=h/\h<ah) (some (.cY id v sz 0 h.toNat,M))
  |_,_=>none
 | .pX off x=>match x.ev bq with
  | .ptr id o=>some (.ptr id (o+off),M)
  | .ju cs=>some (.ju (cs.drop off),M)
  | .iI id v i o=>some (.iI id v i (o+off),M)
  |_=>none
 | .CX off n x=>match x.ev bq with
  | .agg cs=>if off+n<=cs.length then some (.agg ((cs.drop off).take n),M) else none
  |_=>none
 | .CW off x=>match x.ev bq with
  | .agg cs=>bP (nth cs off) fun c=>some (c,M)
  |_=>none
 | .rD sz x i =>
  match x.ev bq,i.ev bq with
  | .slice _ xs,.int _ n=>cH (0<=n) (bP (xs[n.toNat]?) fun e=>if e.cells.length=sz then some (.ju e.cells,M) else none)
  | .cY id v sz' lo hi,.int _ n=>cH (0<=n/\n<(hi-lo:Nat)/\sz'=sz) (some (.iI id v (lo+n.toNat) 0,M))
  |_,_=>none
 | .AP n sz x i =>
  match x.ev bq,i.ev bq with
  | .ju cs,.int _ m=>cH (0<=m/\m<n/\n*sz<=cs.length) (some (.ju (cs.drop (m.toNat*sz)),M))
  | .ptr id off,.int _ m=>cH (0<=m/\m<n) (some (.ptr id (off+m.toNat*sz),M))
  |_,_=>none
 | .AQ x i =>
  match x.ev bq,i.ev bq with
  | .str s,.int _ n=>cH (0<=n) (bP (s[n.toNat]?) fun b=>some (.int .u8 b.toNat,M))
  |_,_=>none
 | .extract x i=>match x.ev bq with | .tuple vs=>bP (nth vs i) fun v=>some (v,M)|_=>none
 | .call f args=>aL call f (args.map fun x=>(x.ev bq).gj) M
 | .Bv f args=>call f (args.map (gw.ev bq)) M
 | .Bw f args=>match f.ev bq with
  | .func g caps=>call g (args.map (gw.ev bq)++caps) M
  |_=>none
 | .mS f args=>aL call f (args.map fun x=>((x.ev bq).sZ M).gj) (vm M ((args.map (gw.ev bq)).flatMap ag.ids))
 | .wE f args=>Bc call f (args.map fun x=>(x.ev bq).gj) M
 | .w5 sz zero x=>match x.ev bq with
  | .slice _ xs=>match xs with|[]=>some (.any,M)|_=>none
  | .cY id ver sz' lo hi=>match nth M id with
   |some (.arr sz0 v xs)=>if v=ver/\sz'=sz/\zero.length=sz/\zero.all ag.plainCell=true then some (.any,jY M id (.arr sz0 ver (xs.take lo++(List.replicate (hi-lo) (.agg zero)++xs.drop hi)))) else none
   |_=>none
  |_=>none
 | .sy f args=>match f.ev bq with
  | .func g caps=>aL call g ((args.map fun x=>(x.ev bq).gj)++caps) M
  | .rP g fs=>aL call g (fs++args.map fun x=>(x.ev bq).gj) M
  | .raw v=>match v with
   | .func (.func g) ⟨[]⟩ ⟨[]⟩=>aL call g (args.map fun x=>(x.ev bq).gj) M
   |_=>none
  |_=>none
 | .Tr x=>match x.ev bq with | .str s=>some (.int .i64 s.length,M)|_=>none
 | .vu x=>match x.ev bq with
  | .slice _ xs=>some (.int .i64 xs.length,M)
  | .cY _ _ _ lo hi=>some (.int .i64 (hi-lo:Nat),M)
  |_=>none
 | .append sz bytes x y =>
  match x.ev bq,y.ev bq with
  | .slice tk xs,.slice _ ys =>
   cH (dY (xs.length+ys.length) bytes/\wid xs sz/\wid ys sz) (
    match tk with
    | .c0=>match xs with|[]=>some (.slice (.own M.length) ys,M++[.tick sz ys.length])|_=>none
    | .own k=>match nth M k with
     |some (.tick sz' n)=>cH (sz'=sz/\n=xs.length) (some (.slice (.own k) (xs++ys),jY M k (.tick sz (xs.length+ys.length))))
     |_=>none
    | .sh=>none)
  | .cY id ver sz' lo hi,.slice _ ys=>match nth M id with
   |some (.arr sz0 v xs)=>cH (v=ver/\sz'=sz/\lo=0/\hi<=xs.length/\dY (hi+ys.length) bytes/\wid (xs.take hi) sz/\wid ys sz)
     (zk (ys.length==0) (some (.cY id ver sz lo hi,M)) (some (.cY id (ver+1) sz 0 (hi+ys.length),jY M id (.arr sz0 (ver+1) (xs.take hi++ys)))))
   |_=>none
  |_,_=>none
 | .A6 mx x y=>match x.ev bq,y.ev bq with
  | .int k a,.int _ b=>some (.int k (match mx with|true=>if b>a then b else a|false=>if b<a then b else a),M)
  |_,_=>none
 | .b2s x=>match x.ev bq with | .slice _ xs=>bP (bytesOf xs) fun l=>some (.str l,M)|_=>none
 | .mkMap=>some (.gJ M.length,M++[.map [] []])
 | .look fk zero ok m k=>bP (mapOf M (m.ev bq)) fun e=>bP (td fk (k.ev bq) e.1 e.2) fun r=>some (lL zero ok r,M)
 | .gD fk m k v=>match m.ev bq with
  | .gJ id=>match nth M id with
   |some (.map ks vs)=>bP (te fk (k.ev bq) (v.ev bq) ks vs) fun e=>some (.any,jY M id (.map e.1 e.2))
   |_=>none
  |_=>none
 | .Oo m=>bP (mapOf M (m.ev bq)) fun e=>some (.int .i64 e.1.length,M)
 | .OY x=>match x.ev bq with | .str s=>some (.jI M.length,M++[.nW s 0])|_=>none
 | .Fo it=>match it.ev bq with
  | .jI id=>match nth M id with
   |some (.nW s pos)=>zk (decide (pos<s.length))
     (some (.tuple [.bool true,.int .i64 pos,.int .i32 (Utf8.decode ⟨s.toArray⟩ pos).1],jY M id (.nW s (pos+(Utf8.decode ⟨s.toArray⟩ pos).2))))
     (some (.tuple [.bool false],M))
   |_=>none
  |_=>none
 | .mkS zero n=>match n.ev bq with
  | .int _ k=>cH (0<=k/\dY k.toNat (8*zero.length)/\zero.all ag.plainCell=true) (some (.slice .sh (List.replicate k.toNat (ag.agg zero).norm),M))
  |_=>none
 | .Oy zero n=>match n.ev bq with
  | .int _ k=>cH (0<=k/\dY k.toNat (8*zero.length)/\zero.all ag.plainCell=true) (some (.cY M.length 0 zero.length 0 k.toNat,M++[.arr zero.length 0 (List.replicate k.toNat (ag.agg zero).norm)]))
  |_=>none
 | .xE sz bytes zero x n =>
  match x.ev bq,n.ev bq with
  | .slice .c0 [],.int _ k=>cH (0<=k/\dY k.toNat bytes/\zero.length=sz/\zero.all ag.plainCell=true)
    (zk (k==0) (some (.slice .c0 [],M)) (some (.cY M.length 0 sz 0 k.toNat,M++[.arr sz 0 (List.replicate k.toNat (ag.agg zero).norm)])))
  | .cY id ver sz' lo hi,.int _ k=>match nth M id with
   |some (.arr sz0 v xs)=>cH (v=ver/\sz'=sz/\lo=0/\hi=xs.length/\0<=k/\dY (xs.length+k.toNat) bytes/\zero.length=sz/\zero.all ag.plainCell=true/\0<xs.length)
     (zk (k==0) (some (.cY id ver sz' lo hi,M)) (some (.cY id (ver+1) sz 0 (xs.length+k.toNat),jY M id (.arr sz0 (ver+1) (xs++List.replicate k.toNat (ag.agg zero).norm)))))
   |_=>none
  |_,_=>none
 | .vP sz bytes x y =>
  match x.ev bq,y.ev bq with
  | .slice .c0 [],.slice _ ys=>cH (dY ys.length bytes/\wid ys sz) (some (.cY M.length 0 sz 0 ys.length,M++[.arr sz 0 ys]))
  |_,_=>none
 | .Ex sz x y =>
  match x.ev bq,y.ev bq with
  | .slice .sh [],.slice _ ys=>cH (wid ys sz) (some (.int .i64 0,M))
  | .cY id ver sz' lo hi,.slice _ ys=>match nth M id with
   |some (.arr sz0 v xs)=>cH (v=ver/\sz'=sz/\wid ys sz/\0<xs.length)
     (some (.int .i64 (min ys.length (hi-lo):Nat),jY M id (.arr sz0 ver (xs.take lo++(ys.take (min ys.length (hi-lo))++xs.drop (lo+min ys.length (hi-lo)))))))
   |_=>none
  |_,_=>none
 | .Nr sz=>some (.ptr (M.length+1) 0,M++[.arr sz 0 [],.cells [.cY M.length 0 sz 0 0]])
 | .iface t x=>match x.ev bq with
  | .ptr id off=>some (.jX t id off,M)
  |y=>bP (valOf y) fun v=>some (.raw (.iface t v),M)
 | .raise x=>match x.ev bq with
  | .raw v=>match v with
   | .iface t u=>some (.oU (.iface t u),M)
   |_=>none
  |_=>none
def rK(bq:Env)(dst:Option Nat)(v:ag):Env :=
 match dst with
 |some d=>(d,v)::bq
 |none=>bq
def kb.eo(bq:Env):kb->List Nat
 | .call _ args=>(args.map fun x=>(x.ev bq).gj).flatMap ag.ids
 | .sy f args=>match f.ev bq with
  | .func _ caps=>((args.map fun x=>(x.ev bq).gj)++caps).flatMap ag.ids
  | .rP _ fs=>(fs++args.map fun x=>(x.ev bq).gj).flatMap ag.ids
  | .raw v=>match v with
   | .func (.func _) ⟨[]⟩ ⟨[]⟩=>(args.map fun x=>(x.ev bq).gj).flatMap ag.ids
   |_=>[]
  |_=>[]
 |_=>[]
def za(bq:Env)(M M':aO):List Nat->Prop
 | []=>True
 |z::r=>(match gW bq z with
  | .ptr id _=>nth M' id=nth M id
  |_=>False)/\za bq M M' r
noncomputable def pW(call:eO)(o:cX)(bq:Env)(M:aO):Option (ag×aO) :=
 match o.xm with
 |true=>cH (o.op.eo bq=[]) (ei call bq M o.op)
 |false=>match o.grow with
  |false=>ei call bq M o.op
  |true=>bP (ei call bq M o.op) fun x=>cH (M <+: x.2\/(o.sep≠[]/\za bq M x.2 o.sep)) (some x)
structure Out where
 e:X8
 bq:Env
 mem:aO
def OU(c:Bool)(x:ag×aO)(k:Option Out):Option Out:=match x.1 with
 | .oU v=>match c with
  |true=>some ⟨.oU v,[],x.2⟩
  |false=>none
 |_=>k
def cX.lets(o:cX):Bool:=o.op.P2&&o.stop
noncomputable def ib(call:eO):List cX->Env->aO->Option Out
 | [],bq,M=>some ⟨.normal,bq,M⟩
 |o::r,bq,M =>
  match o.guard with
  |none=>bP (pW call o bq M) fun x=>OU o.lets x (ib call r (rK bq o.dst x.1) x.2)
  |some (t,want)=>match gW bq t with
   | .bool b=>zk (b==want) (bP (pW call o bq M) fun x=>OU o.lets x (ib call r (rK bq o.dst x.1) x.2))
    (ib call r (rK bq o.dst (.tuple [])) M)
   | .tuple []=>ib call r (rK bq o.dst (.tuple [])) M
   |_=>none
def jt(bq:Env)(live:List Nat):Env:=live.map fun t=>(t,gW bq t)
def Out.tv(live:List Nat)(o:Out):Out:=match o.e with
 | .normal=>⟨.normal,jt o.bq live,o.mem⟩
 |_=>o
open Classical in
noncomputable def lim{α:Type}(F:Nat->Option α):Option α:=if h:∃n,(F n).isSome=true then F (Classical.choose h) else none
def uU(o:Out)(k:Env->aO->Option Out):Option Out:=match o.e with
 | .normal=>k o.bq o.mem
 |_=>some o
def zU(id:Nat)(o:Out):Out:=match o.e with
 | .exit i=>if i=id then ⟨.normal,o.bq,o.mem⟩ else o
 |_=>o
def iter(g:Nat->Nat->Nat)(f:Env->aO->Option Out)(live:List Nat):Nat->Env->aO->Option Out
 |0,_,_=>none
 |n+1,bq,M=>bP (f (jt bq live) M) fun o=>uU o fun e m=>iter g f live n (wD (g M.length m.length) m (jt e live)) (j6 (g M.length m.length) m)
abbrev gL(a _b:Nat):Nat:=a
abbrev gR(_a b:Nat):Nat:=b
def Kt(M:aO)(t:Nat)(bq:Env):Env:=(t,(gW bq t).sZ M)::bq
noncomputable def fe(call:eO):cD->Env->aO->Option Out
 | .skip,bq,M=>some ⟨.normal,bq,M⟩
 | .region ops _ live,bq,M=>bP (ib call ops bq M) fun o=>some (o.tv live)
 | .seq a b,bq,M=>bP (fe call a bq M) fun o=>uU o (fe call b)
 | .cond c x y,bq,M=>match c.ev bq with
  | .bool t=>zk t (fe call x bq M) (fe call y bq M)
  |_=>none
 | .block id c,bq,M=>bP (fe call c bq M) fun o=>some (zU id o)
 | .loop live c,bq,M=>lim fun n=>iter gL (fe call c) live n bq M
 | .mw live c,bq,M=>lim fun n=>iter gR (fe call c) live n bq M
 | .sZ t c,bq,M=>fe call c (Kt M t bq) (vm M (gW bq t).ids)
 | .exit id,bq,M=>some ⟨.exit id,bq,M⟩
 | .ret,bq,M=>some ⟨.ret,bq,M⟩
inductive sm where
 |tmp (t:Nat)
 |fI (t n:Nat)
 |P3 (t:Nat)
structure eX where
 nparams:Nat
 results:List sm
 body:cD
def zY(bq:Env)(M:aO):sm->Option ag
 | .tmp t=>some (gW bq t)
 | .fI t n=>match gW bq t with
  | .ptr id off=>match nth M id with
   |some (.cells cs)=>if off+n<=cs.length then some (.agg ((cs.drop off).take n)) else none
   |_=>none
  |_=>none
 | .P3 t=>match gW bq t with
  | .ptr id off=>match nth M id with
   |some (.cells cs)=>nth cs off
   |_=>none
  |_=>none
def qb(bq:Env)(M:aO):List sm->Option (List ag)
 | []=>some []
 |r::rs=>bP (zY bq M r) fun v=>bP (qb bq M rs) fun l=>some (v::l)
def one:List ag->ag
 | [v]=>v
 |l => .tuple l
def km:Nat->List ag->Env
 |_,[]=>[]
 |i,v::r=>(i,v)::km (i+1) r
def finish(res:List sm)(bZ:Nat)(o:Out):Option (ag×aO) :=
 match o.e with
 | .exit _=>none
 | .oU v=>some (.oU v,j6 bZ o.mem)
 |_=>bP (qb o.bq o.mem res) fun l=>some ((one l).mR bZ o.mem,j6 bZ o.mem)
structure Br where
 code:Nat->Option eX
 qP:Nat->Option (List ag->aO->Option (ag×aO))
noncomputable def lh(T:Br):Nat->eO
 |0,f,args,M=>match T.qP f with
  |some g=>g args M
  |none=>none
 |n+1,f,args,M=>match T.qP f with
  |some g=>g args M
  |none=>match T.code f with
   |none=>none
   |some fn=>if args.length=fn.nparams then bP (fe (lh T n) fn.body (km 0 args) M) (finish fn.results M.length) else none
noncomputable def aq(T:Br):eO:=fun f args M=>lim fun n=>lh T n f args M
theorem qL{α:Type}{F:Nat->Option α}(hm:∀n x,F n=some x->F (n+1)=some x){n:Nat}{x:α}(h:F n=some x):lim F=some x:=by
 have up:∀k n x,F n=some x->F (n+k)=some x:=by
  intro k;induction k<;>grind
 unfold lim;have hex:∃n,(F n).isSome=true:=⟨n,kW⟩;rw[dif_pos hex];have hc:=Classical.choose_spec hex;generalize Classical.choose _=m at *;obtain⟨y,hy⟩:=gU.1 hc;rcases Nat.le_total n m with hle|hle
 ·have:=up (m-n) n x h;rw[show n+(m-n)=m by omega] at this
  omega
 ·have:=up (n-m) m y hy;rw[show m+(n-m)=n by omega,h] at this
  rw[hy,this]
theorem uY{α:Type}{F:Nat->Option α}{x:α}(h:lim F=some x):∃n,F n=some x:=by
 unfold lim at h;split at h
 ·grind
 grind
def yB(C C':eO):Prop:=∀f a M x,C f a M=some x->C' f a M=some x
def bu{α β:Type}{x:Option α}{f:α->Option β}{y:β}(h:bP x f=some y):∃a,x=some a/\f a=some y:=by
 cases x<;>simp_all
def k8{α:Type}{b:Bool}{x y:Option α}{z:α}(h:zk b x y=some z):(b=true/\x=some z)\/(b=false/\y=some z):=by
 cases b
 ·simp_all
 simp_all
theorem dw{α:Type}{p:Prop}{x:Option α}{z:α}(h:cH p x=some z):p/\x=some z:=by
 grind [cH]
theorem tY{C:eO}{f:Nat}{vs:List ag}{M:aO}{x:ag×aO}(h:aL C f vs M=some x) :
  ∃a B y,C f a B=some y/\∀C':eO,C' f a B=some y->aL C' f vs M=some x:=by
 unfold aL at h;split at h
 ·obtain⟨B,hB,h⟩:=bu h;split at h
  ·obtain⟨y,hy,h⟩:=bu h;refine⟨_,B,y,hy,fun C' hC'=>?_⟩
   simp_all [aL]
  grind
 grind
theorem LA{C:eO}{bq:Env}{M:aO}{o:kb}{x:ag×aO}(h:ei C bq M o=some x) :
  (∀C':eO,ei C' bq M o=some x)\/∃f a B y,C f a B=some y/\∀C':eO,C' f a B=some y->ei C' bq M o=some x:=by
 cases o
 case call f args =>
  simp only[ei] at h ⊢;obtain⟨a,B,y,h1,h2⟩:=tY h;exact .inr ⟨f,a,B,y,h1,h2⟩
 case wE f args =>
  simp only[ei] at h ⊢;unfold Bc at h;split at h
  ·rename_i hc;obtain⟨y,hy,h⟩:=bu h;refine .inr ⟨f,_,[],y,hy,fun C' hC'=>?_⟩
   unfold Bc;rw[av hc,hC'];exact h
  ·cases h
 case Bw f args =>
  simp only[ei] at h ⊢;split at h
  ·exact .inr ⟨_,_,_,_,h,fun _ h'=>h'⟩
  ·cases h
 case Bv f args=>exact .inr ⟨f,_,_,_,h,fun _ h'=>h'⟩
 case mS f args =>
  simp only[ei] at h ⊢;obtain⟨a,B,y,h1,h2⟩:=tY h;exact .inr ⟨f,a,B,y,h1,h2⟩
 case sy f args =>
  simp only[ei] at h ⊢;split at h<;>grind [tY]
 all_goals exact .inl fun _=>h
theorem PR{C C':eO}(hC:yB C C'){bq:Env}{M:aO}{o:kb}{x:ag×aO}(h:ei C bq M o=some x):ei C' bq M o=some x:=by
 rcases LA h with h|⟨f,a,B,y,h1,h2⟩
 ·grind
 ·exact h2 _ (hC _ _ _ _ h1)
theorem rU{C:eO}{o:cX}{bq:Env}{M:aO}{x:ag×aO}(h:pW C o bq M=some x) :
  (o.xm=true/\o.op.eo bq=[]/\ei C bq M o.op=some x)\/(o.xm=false/\o.grow=false/\ei C bq M o.op=some x)\/(o.xm=false/\o.grow=true/\(M <+: x.2\/(o.sep≠[]/\za bq M x.2 o.sep))/\ei C bq M o.op=some x):=by
 unfold pW at h;split at h
 ·grind [dw]
 ·split at h
  ·exact .inr (.inl ⟨by assumption,by assumption,h⟩)
  ·obtain⟨y,hy,h⟩:=bu h
   grind [dw]
theorem CC{C C':eO}(hC:yB C C'){bq:Env}{M:aO}{o:cX}{x:ag×aO}(h:pW C o bq M=some x):pW C' o bq M=some x:=by
 grind [rU,pW,PR]
theorem MJ{c:Bool}{x:ag×aO}{k:Option Out}{o:Out}(h:OU c x k=some o):(x.1.jG=false/\k=some o)\/∃v,c=true/\x.1 = .oU v/\o=⟨.oU v,[],x.2⟩:=by
 obtain⟨x,M⟩:=x
 cases x<;>first
  |exact .inl ⟨rfl,h⟩
  |(cases c
    ·cases h
    ·injection h with h; grind)
def K8{c:Bool}{x:ag×aO}{k:Option Out}(h:x.1.jG=false):OU c x k=k:=by
 obtain⟨x,M⟩:=x;cases x<;>first|rfl|cases h
theorem ML{c:Bool}{x:ag×aO}{k:Option Out}{v:Value}(hc:c=true)(h:x.1 = .oU v):OU c x k=some ⟨.oU v,[],x.2⟩:=by
 grind [OU]
theorem pR{C:eO}{o:cX}{r:List cX}{bq:Env}{M:aO}{x:Out}(h:ib C (o::r) bq M=some x) :
  (∃y,(∀t want,o.guard=some (t,want)->gW bq t = .bool want)/\pW C o bq M=some y/\((y.1.jG=false/\ib C r (rK bq o.dst y.1) y.2=some x)\/∃v,o.lets=true/\y.1 = .oU v/\x=⟨.oU v,[],y.2⟩)) \/
  (∃t want,o.guard=some (t,want)/\(gW bq t = .bool (!want)\/gW bq t = .tuple [])/\ib C r (rK bq o.dst (.tuple [])) M=some x):=by
 unfold ib at h;split at h
 ·rename_i hg;obtain⟨y,hy,h⟩:=bu h
  grind [MJ]
 ·rename_i t want hg;split at h
  ·rename_i b hb;rcases k8 h with ⟨h1,h2⟩|⟨h1,h2⟩
   ·obtain⟨y,hy,h2⟩:=bu h2
    grind [MJ]
   ·refine .inr ⟨t,want,hg,.inl ?_,h2⟩;cases b<;>cases want<;>simp_all
  ·grind
  grind
def rT{C:eO}{o:cX}{r:List cX}{bq:Env}{M:aO}{y:ag×aO}(hg:∀t want,o.guard=some (t,want)->gW bq t = .bool want)
  (hy:pW C o bq M=some y):ib C (o::r) bq M=OU o.lets y (ib C r (rK bq o.dst y.1) y.2):=by
 rw[ib];split
 ·rw[hy]; rfl
 simp_all
theorem wC{C:eO}{o:cX}{r:List cX}{bq:Env}{M:aO}{t:Nat}{want:Bool}(hg:o.guard=some (t,want))
  (hb:gW bq t = .bool (!want)\/gW bq t = .tuple []):ib C (o::r) bq M=ib C r (rK bq o.dst (.tuple [])) M:=by
 rw[ib];simp[hg];rcases hb with hb|hb
 ·rw[hb]; cases want<;>simp
 grind
theorem tp{C C':eO}(hC:yB C C'):∀ {ops:List cX} {bq:Env} {M:aO} {x:Out},ib C ops bq M=some x->ib C' ops bq M=some x
 | [],_,_,_,h=>h
 |o::r,bq,M,x,h=>by
  rcases pR h with ⟨y,h1,h2,h3⟩|⟨t,want,h1,h2,h3⟩
  ·rw[rT h1 (CC hC h2)];rcases h3 with ⟨h3,h4⟩|⟨v,h0,h3,rfl⟩
   ·rw[K8 h3]; exact tp hC h4
   grind [ML]
  ·rw[wC h1 h2]; exact tp hC h3
theorem ud{o:Out}{k:Env->aO->Option Out}{x:Out}(h:uU o k=some x):(o.e = .normal/\k o.bq o.mem=some x)\/(o.e ≠ .normal/\x=o):=by
 grind [uU]
theorem uG{o:Out}{k:Env->aO->Option Out}(h:o.e = .normal):uU o k=k o.bq o.mem:=by grind [uU]
theorem zI{o:Out}{k:Env->aO->Option Out}(h:o.e ≠ .normal):uU o k=some o:=by
 simp[uU]
theorem xP{o:Out}{k k':Env->aO->Option Out}{x:Out}(hk:∀bq M x,k bq M=some x->k' bq M=some x)(h:uU o k=some x):uU o k'=some x:=by
 grind [ud,uG,zI]
def xQ{g0:Nat->Nat->Nat}{f g:Env->aO->Option Out}(hfg:∀bq M x,f bq M=some x->g bq M=some x)(live:List Nat):∀n {bq M x},iter g0 f live n bq M=some x->iter g0 g live n bq M=some x
 |0,_,_,_,h=>h
 |n+1,bq,M,x,h=>by
  rw[iter] at *;obtain⟨a,ha,h⟩:=bu h;rw[hfg _ _ _ ha];exact xP (fun bq M x h=>xQ hfg _ n h) h
def uJ{g0:Nat->Nat->Nat}{f:Env->aO->Option Out}(live:List Nat):∀n {bq M x},iter g0 f live n bq M=some x->iter g0 f live (n+1) bq M=some x
 |0,_,_,_,h=>by cases h
 |n+1,bq,M,x,h=>by
  rw[iter] at h ⊢;obtain⟨a,ha,h⟩:=bu h;rw[ha];exact xP (fun bq M x h=>uJ _ n h) h
theorem jO{C C':eO}(hC:yB C C'):∀(c:cD){bq:Env}{M:aO}{x:Out},fe C c bq M=some x->fe C' c bq M=some x
 | .skip,_,_,_,h=>h
 | .exit _,_,_,_,h=>h
 | .ret,_,_,_,h=>h
 | .region _ d _,bq,M,x,h=>by
  simp[fe] at *;obtain⟨a,ha,h⟩:=bu h;rw[tp hC ha]; grind
 | .seq a b,bq,M,x,h=>by
  simp[fe] at *;obtain⟨o,ho,h⟩:=bu h;rw[jO hC a ho];exact xP (fun bq M x=>jO hC b) h
 | .cond c a b,bq,M,x,h=>by
  simp[fe] at *;split
  ·rename_i t ht;simp[ht] at h;rcases k8 h with ⟨rfl,h⟩|⟨rfl,h⟩
   ·exact jO hC a h
   ·exact jO hC b h
  grind
 | .block id c,bq,M,x,h=>by
  simp[fe] at *;obtain⟨o,ho,h⟩:=bu h;rw[jO hC c ho]; grind
 | .loop _ c,bq,M,x,h=>by
  obtain⟨n,hn⟩:=uY h;exact qL (fun n x=>uJ _ n) (xQ (fun bq M x=>jO hC c) _ n hn)
 | .mw _ c,bq,M,x,h=>by
  obtain⟨n,hn⟩:=uY h;exact qL (fun n x=>uJ _ n) (xQ (fun bq M x=>jO hC c) _ n hn)
 | .sZ _ c,bq,M,x,h=>jO hC c h
theorem vd(T:Br):∀n,yB (lh T n) (lh T (n+1))
 |0,f,a,M,x,h=>by
  grind [lh]
 |n+1,f,a,M,x,h=>by
  rw[lh] at h ⊢;split
  ·grind
  ·rename_i hg;simp[hg] at h;split
   ·grind
   ·rename_i fn hf;simp only[hf] at h;split
    ·rename_i hl;rw[av hl] at h;obtain⟨o,ho,h⟩:=bu h;rw[jO (vd T n) _ ho]
     grind
    grind
def tH(T:Br){n m:Nat}(h:n<=m):yB (lh T n) (lh T m):=by
 obtain⟨k,rfl⟩:=Nat.exists_eq_add_of_le h;induction k with
 |zero=>exact fun _ _ _ _ h=>h
 |succ k ih=>exact fun f a M x hx=>vd T _ f a M x (ih dk f a M x hx)
theorem JR(T:Br){bq:Env}{M:aO}{o:cX}{x:ag×aO}(h:pW (aq T) o bq M=some x):∃n,pW (lh T n) o bq M=some x:=by
 have key:∀y,ei (aq T) bq M o.op=some y->∃n,ei (lh T n) bq M o.op=some y:=by
  intro y hy;rcases LA hy with h|⟨f,a,B,z,h1,h2⟩
  ·simp_all
  ·obtain⟨n,hn⟩:=uY h1
   grind
 rcases rU h with ⟨hn,hi,h1⟩|⟨hn,hg,h1⟩|⟨hn,hg,hp,h1⟩<;>obtain⟨n,h2⟩:=key _ h1
 ·grind [pW]
 ·grind [pW]
 grind [pW]
def vQ(T:Br):∀ {ops:List cX} {bq:Env} {M:aO} {x:Out},ib (aq T) ops bq M=some x->∃n,ib (lh T n) ops bq M=some x
 | [],_,_,_,h=>⟨0,h⟩
 |o::r,bq,M,x,h=>by
  rcases pR h with ⟨y,h1,h2,h3⟩|⟨t,want,h1,h2,h3⟩
  ·obtain⟨n,hn⟩:=JR T h2;rcases h3 with ⟨h3,h4⟩|⟨v,h0,h3,rfl⟩
   ·obtain⟨m,hm⟩:=vQ T h4;refine⟨max n m,?_⟩;rw[rT h1 (CC (tH T (Nat.le_max_left n m)) hn),K8 h3];exact tp (tH T (Nat.le_max_right n m)) hm
   ·exact⟨n,by rw[rT h1 hn]; exact ML h0 h3⟩
  ·obtain⟨m,hm⟩:=vQ T h3;exact⟨m,by rw[wC h1 h2]; exact hm⟩
def AU(T:Br){g:Nat->Nat->Nat}{live:List Nat}{c:cD}(hc:∀ {bq:Env} {M:aO} {x:Out},fe (aq T) c bq M=some x->∃n,fe (lh T n) c bq M=some x){x:Out} :
  ∀k bq M,iter g (fe (aq T) c) live k bq M=some x->∃n,iter g (fe (lh T n) c) live k bq M=some x
 |0,bq,M,h=>by cases h
 |k+1,bq,M,h=>by
  rw[iter] at h;obtain⟨a,ha,h⟩:=bu h;obtain⟨n,hn⟩:=hc ha;rcases ud h with ⟨h1,h2⟩|⟨h1,h2⟩
  ·obtain⟨m,hm⟩:=AU T hc k _ _ h2;refine⟨max n m,?_⟩;rw[iter,jO (tH T (Nat.le_max_left n m)) c hn,cq,uG h1];exact xQ (fun bq M x=>jO (tH T (Nat.le_max_right n m)) c) live k hm
  ·exact⟨n,by rw[iter,hn,cq,zI h1,h2]⟩
def oC(T:Br):∀(c:cD){bq:Env}{M:aO}{x:Out},fe (aq T) c bq M=some x->∃n,fe (lh T n) c bq M=some x
 | .skip,_,_,_,h=>⟨0,h⟩
 | .exit _,_,_,_,h=>⟨0,h⟩
 | .ret,_,_,_,h=>⟨0,h⟩
 | .region ops d live,bq,M,x,h=>by
  simp only[fe] at *;obtain⟨a,ha,h⟩:=bu h;obtain⟨n,hn⟩:=vQ T ha;exact⟨n,by rw[hn]; exact h⟩
 | .seq a b,bq,M,x,h=>by
  simp only[fe] at *;obtain⟨o,ho,h⟩:=bu h;obtain⟨n,hn⟩:=oC T a ho;rcases ud h with ⟨h1,h2⟩|⟨h1,h2⟩
  ·obtain⟨m,hm⟩:=oC T b h2;refine⟨max n m,?_⟩;rw[jO (tH T (Nat.le_max_left n m)) a hn,cq,uG h1];exact jO (tH T (Nat.le_max_right n m)) b hm
  ·exact⟨n,by rw[hn,cq,zI h1,h2]⟩
 | .cond c a b,bq,M,x,h=>by
  simp only[fe] at *;split at h
  ·rename_i t ht;rcases k8 h with ⟨rfl,h⟩|⟨rfl,h⟩
   ·obtain⟨n,hn⟩:=oC T a h; exact⟨n,hn⟩
   ·obtain⟨n,hn⟩:=oC T b h; exact⟨n,hn⟩
  ·cases h
 | .block id c,bq,M,x,h=>by
  simp only[fe] at *;obtain⟨o,ho,h⟩:=bu h;obtain⟨n,hn⟩:=oC T c ho;exact⟨n,by rw[hn]; exact h⟩
 | .loop live c,bq,M,x,h=>by
  simp only[fe] at *;obtain⟨k,hk⟩:=uY h;obtain⟨n,hn⟩:=AU T (oC T c) k bq M hk;exact⟨n,qL (fun n x=>uJ live n) hn⟩
 | .mw live c,bq,M,x,h=>by
  simp only[fe] at *;obtain⟨k,hk⟩:=uY h;obtain⟨n,hn⟩:=AU T (oC T c) k bq M hk;exact⟨n,qL (fun n x=>uJ live n) hn⟩
 | .sZ _ c,bq,M,x,h=>oC T c h
def E1(g:Nat->Nat->Nat)(C:eO)(live:List Nat)(c:cD)(bq:Env)(M:aO) :
  lim (fun n=>iter g (fe C c) live n bq M)=bP (fe C c (jt bq live) M) fun o=>uU o fun e m=>lim fun n=>iter g (fe C c) live n (wD (g M.length m.length) m (jt e live)) (j6 (g M.length m.length) m):=by
 apply Option.ext;intro x;constructor
 ·intro h;obtain⟨n,hn⟩:=uY h;cases n with
  |zero=>cases hn
  |succ n =>
   rw[iter] at hn;obtain⟨o,ho,hn⟩:=bu hn;rw[ho,cq];exact xP (fun bq M x hx=>qL (fun n x=>uJ live n) hx) hn
 ·intro h;obtain⟨o,ho,h⟩:=bu h;rcases ud h with ⟨h1,h2⟩|⟨h1,h2⟩
  ·obtain⟨n,hn⟩:=uY h2;refine qL (F:=fun n=>iter g (fe C c) live n bq M) (n:=n+1) (fun n x=>uJ live n) ?_
   show iter g (fe C c) live (n+1) bq M=some x
   rw[iter,ho,cq,uG h1];exact hn
  ·refine qL (F:=fun n=>iter g (fe C c) live n bq M) (n:=1) (fun n x=>uJ live n) ?_
   show iter g (fe C c) live 1 bq M=some x
   rw[iter,ho,cq,zI h1,h2]
def JM(C:eO)(live:List Nat)(c:cD)(bq:Env)(M:aO) :
  fe C (.loop live c) bq M=bP (fe C c (jt bq live) M) fun o=>uU o fun e m=>fe C (.loop live c) (wD M.length m (jt e live)) (j6 M.length m):=E1 gL C live c bq M
def Hr(C:eO)(live:List Nat)(c:cD)(bq:Env)(M:aO) :
  fe C (.mw live c) bq M=bP (fe C c (jt bq live) M) fun o=>uU o fun e m=>fe C (.mw live c) (wD m.length m (jt e live)) (j6 m.length m):=E1 gR C live c bq M
def JK{T:Br}{f:Nat}{fn:eX}{args:List ag}{M:aO}{x:ag×aO}(hp:T.qP f=none)(hc:T.code f=some fn)(hl:args.length=fn.nparams)
  (h:bP (fe (aq T) fn.body (km 0 args) M) (finish fn.results M.length)=some x):aq T f args M=some x:=by
 obtain⟨o,hb,hf⟩:=bu h;obtain⟨n,hn⟩:=oC T fn.body hb;refine qL (n:=n+1) (fun n x h=>vd T n f args M x h) ?_
 rw[lh];simp only[hp,hc,av hl,hn,cq];exact hf
def gN{T:Br}{f:Nat}{g:List ag->aO->Option (ag×aO)}{args:List ag}{M:aO}{x:ag×aO}(hp:T.qP f=some g)(hg:g args M=some x):aq T f args M=some x:=by
 refine qL (n:=0) (fun n x h=>vd T n f args M x h) ?_
 rw[lh];simp only[hp,hg]
inductive K where
 |seq (c:cD)
 |block (id:Nat)
 |loop (live:List Nat) (n:Nat) (c:cD)
 |mw (live:List Nat) (c:cD)
noncomputable def kr(C:eO)(fn:List sm)(bZ:Nat):List K->Out->Option (ag×aO)
 | [],o=>finish fn bZ o
 | .seq c::k,o=>bP (uU o (fe C c)) (kr C fn bZ k)
 | .block id::k,o=>kr C fn bZ k (zU id o)
 | .loop live n c::k,o=>bP (uU o fun e m=>fe C (.loop live c) (wD n m (jt e live)) (j6 n m)) (kr C fn bZ k)
 | .mw live c::k,o=>bP (uU o fun e m=>fe C (.mw live c) (wD m.length m (jt e live)) (j6 m.length m)) (kr C fn bZ k)
noncomputable def fP(C:eO)(fn:List sm)(bZ:Nat)(k:List K)(c:cD)(bq:Env)(M:aO):Option (ag×aO):=bP (fe C c bq M) (kr C fn bZ k)
noncomputable def fm(C:eO)(fn:List sm)(bZ:Nat)(k:List K)(live:List Nat)(ops:List cX)(bq:Env)(M:aO):Option (ag×aO) :=
 bP (ib C ops bq M) fun o=>kr C fn bZ k (o.tv live)
noncomputable def kM(C:eO)(fn:List sm)(bZ:Nat)(k:List K)(live:List Nat)(c:Bool)(dst:Option Nat)(r:List cX)(bq:Env)(y:Option (ag×aO)):Option (ag×aO) :=
 bP y fun x=>bP (OU c x (ib C r (rK bq dst x.1) x.2)) fun o=>kr C fn bZ k (o.tv live)
noncomputable def gK(C:eO)(fn:List sm)(bZ:Nat)(k:List K)(live:List Nat)(g:ag)(want:Bool)(o:cX)(r:List cX)(bq:Env)(M:aO):Option (ag×aO) :=
 match g with
 | .bool b=>zk (b==want) (kM C fn bZ k live o.lets o.dst r bq (pW C o bq M)) (fm C fn bZ k live r (rK bq o.dst (.tuple [])) M)
 | .tuple []=>fm C fn bZ k live r (rK bq o.dst (.tuple [])) M
 |_=>none
noncomputable def dH(C:eO)(fn:List sm)(bZ:Nat)(k:List K)(v:ag)(x y:cD)(bq:Env)(M:aO):Option (ag×aO) :=
 match v with
 | .bool t=>zk t (fP C fn bZ k x bq M) (fP C fn bZ k y bq M)
 |_=>none
def pJ{α β γ:Type}(x:Option α)(f:α->Option β)(g:β->Option γ):bP (bP x f) g=bP x fun a=>bP (f a) g:=by cases x<;>rfl
section
variable (C:eO) (fn:List sm) (bZ:Nat) (k:List K) (bq:Env) (M:aO)
def Qq:fP C fn bZ k .skip bq M=kr C fn bZ k ⟨.normal,bq,M⟩:=rfl
def Qp(id:Nat):fP C fn bZ k (.exit id) bq M=kr C fn bZ k ⟨.exit id,bq,M⟩:=rfl
def VW:fP C fn bZ k .ret bq M=kr C fn bZ k ⟨.ret,bq,M⟩:=rfl
def VX(a b:cD):fP C fn bZ k (.seq a b) bq M=fP C fn bZ (.seq b::k) a bq M:=by
 unfold fP;rw[fe,pJ];rfl
def NR(id:Nat)(c:cD):fP C fn bZ k (.block id c) bq M=fP C fn bZ (.block id::k) c bq M:=by
 unfold fP;rw[fe,pJ];rfl
def Qo(c:gw)(x y:cD):fP C fn bZ k (.cond c x y) bq M=dH C fn bZ k (c.ev bq) x y bq M:=by
 unfold fP dH;rw[fe];cases c.ev bq<;>simp[fP]
def Kl(ops:List cX)(d:Bool)(live:List Nat):fP C fn bZ k (.region ops d live) bq M=fm C fn bZ k live ops bq M:=by
 unfold fP fm;rw[fe,pJ];rfl
def cv(live:List Nat)(c:cD):fP C fn bZ k (.loop live c) bq M=fP C fn bZ (.loop live M.length c::k) c (jt bq live) M:=by
 unfold fP;rw[JM,pJ];rfl
def EC(live:List Nat)(c:cD):fP C fn bZ k (.mw live c) bq M=fP C fn bZ (.mw live c::k) c (jt bq live) M:=by
 unfold fP;rw[Hr,pJ];rfl
def VV(t:Nat)(c:cD):fP C fn bZ k (.sZ t c) bq M=fP C fn bZ k c (Kt M t bq) (vm M (gW bq t).ids):=rfl
def Ti(live:List Nat)(c:cD):kr C fn bZ (.mw live c::k) ⟨.normal,bq,M⟩=fP C fn bZ k (.mw live c) (wD M.length M (jt bq live)) (j6 M.length M):=rfl
def Ee(live:List Nat)(c:cD)(i:Nat):kr C fn bZ (.mw live c::k) ⟨.exit i,bq,M⟩=kr C fn bZ k ⟨.exit i,bq,M⟩:=rfl
def GH(live:List Nat)(c:cD):kr C fn bZ (.mw live c::k) ⟨.ret,bq,M⟩=kr C fn bZ k ⟨.ret,bq,M⟩:=rfl
def Uh(live:List Nat):fm C fn bZ k live [] bq M=kr C fn bZ k ⟨.normal,jt bq live,M⟩:=rfl
def OM(live:List Nat)(d:Option Nat)(op:kb)(g m:Bool)(s:List Nat)(st:Bool)(r:List cX) :
  fm C fn bZ k live (⟨d,op,none,g,m,s,st⟩::r) bq M=kM C fn bZ k live (cX.lets ⟨d,op,none,g,m,s,st⟩) d r bq (pW C ⟨d,op,none,g,m,s,st⟩ bq M):=by
 unfold fm kM;rw[ib,pJ]
def ON(live:List Nat)(d:Option Nat)(op:kb)(t:Nat)(w g m:Bool)(s:List Nat)(st:Bool)(r:List cX) :
  fm C fn bZ k live (⟨d,op,some (t,w),g,m,s,st⟩::r) bq M=gK C fn bZ k live (gW bq t) w ⟨d,op,some (t,w),g,m,s,st⟩ r bq M:=by
 unfold fm gK;rw[ib];simp only;generalize gW bq t=v;split
 ·rw[OB,pJ]; rfl
 ·rfl
 ·rename_i h1 h2
  first
   |rfl
   |(split
     ·rename_i b; exact absurd rfl (h1 b)
     ·exact absurd rfl h2
     ·rfl)
def TW(live:List Nat)(c:Bool)(d:Option Nat)(r:List cX)(v:ag)(M':aO)(hv:v.jG=false):kM C fn bZ k live c d r bq (some (v,M'))=fm C fn bZ k live r (rK bq d v) M':=by
 unfold kM;rw[cq,K8 hv]; rfl
def Xo(live:List Nat)(d:Option Nat)(r:List cX)(v:Value)(M':aO):kM C fn bZ k live true d r bq (some (.oU v,M'))=kr C fn bZ k ⟨.oU v,[],M'⟩:=rfl
def Ot(d g f:_)(a m s1 s:_):cX.lets ⟨d,.call f a,g,m,s1,s,true⟩=true:=rfl
def KO(d g f:_)(a m s1 s:_):cX.lets ⟨d,.sy f a,g,m,s1,s,true⟩=true:=rfl
def KQ(d g f:_)(a m s1 s:_):cX.lets ⟨d,.Bw f a,g,m,s1,s,true⟩=true:=rfl
def KM(d g f:_)(a m s1 s:_):cX.lets ⟨d,.Bv f a,g,m,s1,s,true⟩=true:=rfl
def KN(d g f:_)(a m s1 s:_):cX.lets ⟨d,.mS f a,g,m,s1,s,true⟩=true:=rfl
def KR(d g f:_)(m s1 s:_):cX.lets ⟨d,.raise f,g,m,s1,s,true⟩=true:=rfl
def ahu(live:List Nat)(o:cX)(r:List cX):gK C fn bZ k live (.bool true) true o r bq M=kM C fn bZ k live o.lets o.dst r bq (pW C o bq M):=rfl
def ahr(live:List Nat)(o:cX)(r:List cX):gK C fn bZ k live (.bool false) false o r bq M=kM C fn bZ k live o.lets o.dst r bq (pW C o bq M):=rfl
def aht(live:List Nat)(o:cX)(r:List cX):gK C fn bZ k live (.bool true) false o r bq M=fm C fn bZ k live r (rK bq o.dst (.tuple [])) M:=rfl
def ahs(live:List Nat)(o:cX)(r:List cX):gK C fn bZ k live (.bool false) true o r bq M=fm C fn bZ k live r (rK bq o.dst (.tuple [])) M:=rfl
def ahv(live:List Nat)(w:Bool)(o:cX)(r:List cX):gK C fn bZ k live (.tuple []) w o r bq M=fm C fn bZ k live r (rK bq o.dst (.tuple [])) M:=rfl
def V4(x y:cD):dH C fn bZ k (.bool true) x y bq M=fP C fn bZ k x bq M:=rfl
def V3(x y:cD):dH C fn bZ k (.bool false) x y bq M=fP C fn bZ k y bq M:=rfl
def ade(c:cD):kr C fn bZ (.seq c::k) ⟨.normal,bq,M⟩=fP C fn bZ k c bq M:=rfl
def Ij(c:cD)(i:Nat):kr C fn bZ (.seq c::k) ⟨.exit i,bq,M⟩=kr C fn bZ k ⟨.exit i,bq,M⟩:=rfl
def KG(c:cD):kr C fn bZ (.seq c::k) ⟨.ret,bq,M⟩=kr C fn bZ k ⟨.ret,bq,M⟩:=rfl
def KF(c:cD)(v:Value):kr C fn bZ (.seq c::k) ⟨.oU v,bq,M⟩=kr C fn bZ k ⟨.oU v,bq,M⟩:=rfl
def GF(id:Nat)(v:Value):kr C fn bZ (.block id::k) ⟨.oU v,bq,M⟩=kr C fn bZ k ⟨.oU v,bq,M⟩:=rfl
def Ih(live:List Nat)(n:Nat)(c:cD)(v:Value):kr C fn bZ (.loop live n c::k) ⟨.oU v,bq,M⟩=kr C fn bZ k ⟨.oU v,bq,M⟩:=rfl
def Th(id:Nat):kr C fn bZ (.block id::k) ⟨.normal,bq,M⟩=kr C fn bZ k ⟨.normal,bq,M⟩:=rfl
def Ed(id i:Nat):kr C fn bZ (.block id::k) ⟨.exit i,bq,M⟩=if i=id then kr C fn bZ k ⟨.normal,bq,M⟩ else kr C fn bZ k ⟨.exit i,bq,M⟩:=by
 rw[kr]; simp only[zU]; split<;>rfl
def GG(id:Nat):kr C fn bZ (.block id::k) ⟨.ret,bq,M⟩=kr C fn bZ k ⟨.ret,bq,M⟩:=rfl
def Wn(live:List Nat)(n:Nat)(c:cD):kr C fn bZ (.loop live n c::k) ⟨.normal,bq,M⟩=fP C fn bZ k (.loop live c) (wD n M (jt bq live)) (j6 n M):=rfl
def GI(live:List Nat)(n:Nat)(c:cD)(i:Nat):kr C fn bZ (.loop live n c::k) ⟨.exit i,bq,M⟩=kr C fn bZ k ⟨.exit i,bq,M⟩:=rfl
def Ii(live:List Nat)(n:Nat)(c:cD):kr C fn bZ (.loop live n c::k) ⟨.ret,bq,M⟩=kr C fn bZ k ⟨.ret,bq,M⟩:=rfl
def adb(o:Out):kr C fn bZ [] o=finish fn bZ o:=rfl
end
def ij{q body:cD}(h:q=body)(C:eO)(fn:List sm)(bZ:Nat)(k:List K)(bq:Env)(M:aO):fP C fn bZ k q bq M=fP C fn bZ k body bq M:=by rw[h]
def aw{T:Br}{f:Nat}{fn:eX}{args:List ag}{M:aO}{x:ag×aO}(h:fP (aq T) fn.results M.length [] fn.body (km 0 args) M=some x)
  (hp:T.qP f=none:=by exact rfl) (hc:T.code f=some fn:=by exact rfl) (hl:args.length=fn.nparams:=by exact rfl):aq T f args M=some x :=
 JK hp hc hl (by
  unfold fP at h;obtain⟨o,h1,h2⟩:=bu h;rw[h1]; exact h2)
end
section
open Go Go.RowKit
def bs(s:List UInt8):ByteArray:=⟨s.toArray⟩
structure J where
 f:Nat->Option Nat
 X:Nat->Nat->Prop
instance:CoeFun J (fun _=>Nat->Option Nat):=⟨J.f⟩
structure ow(j:J)(M:aO)(w:World)(b off:Nat):Prop where
 lt:b<w.heap.size
 ids:∀id,id<M.length->j id=some b->∃sz n,M[id]?=some (.tick sz n)/\off<n*sz
 nx:¬j.X b off
inductive fK(w:World)(im:Nat->Nat->Prop):ag->Value->Prop where
 |bool (b:Bool):fK w im (.bool b) (.bool b)
 |int (k:IntKind) (n:Int):fK w im (.int k n) (.int k n)
 |str (s:List UInt8):fK w im (.str s) (.string (bs s))
 |raw (v:Value) (h1:v.oneCell'=true):fK w im (.raw v) v
 |slice (xs:List ag) (A:Option Addr) (len cap b off sz:Nat) (vs:Nat->Value) (hl:len=xs.length) (hc:len<=cap)
   (ha:xs≠[]->A=some ⟨b,off,none⟩) (hz:∀x,x∈xs->x.cells.length=sz)
   (hs:∀(i:Nat)(x:ag)(k:Nat)(c:ag),xs[i]?=some x->x.cells[k]?=some c->w.cell? ⟨b,off+(i*sz+k),none⟩=some (vs (i*sz+k))/\im b (off+(i*sz+k)))
   (hr:∀(i:Nat)(x:ag)(k:Nat)(c:ag),xs[i]?=some x->x.cells[k]?=some c->fK w im c (vs (i*sz+k))):fK w im (.slice .sh xs) (.slice A len cap)
def PK(j:J)(w:World)(k n t:Nat)(x:Bool)(v:Value):Prop :=
 (j k=none/\n=0/\∃A,v = .slice A 0 0/\(x=true->A=none)) \/
 ∃b cap vs,0<n/\j k=some b/\v = .slice (some ⟨b,0,none⟩) n cap/\w.heap[b]?=some (.cells vs t (0,0))/\cap<=vs.size/\n<=cap
def Hk(j:J)(w:World)(k sz n:Nat)(v:Value):Prop :=
 (j k=none/\n=0/\∃A,v = .slice A 0 0) \/
 ∃b cap vs t,j k=some b/\v = .slice (some ⟨b,0,none⟩) n cap/\w.heap[b]?=some (.cells vs t (0,0))/\cap*sz<=vs.size/\n<=cap
def BZ(w:World)(im:Nat->Nat->Prop)(x:ag)(v:Value):Prop :=
 match x with
 | .agg cs=>∃us:Array Value,v = .agg us/\cs.length=us.size/\∀(i:Nat)(c:ag)(u:Value),cs[i]?=some c->us[i]?=some u->fK w im c u
 |x=>fK w im x v
inductive gn(j:J)(M:aO)(w:World):ag->Value->Prop where
 |plain {x:ag} {v:Value} (h:fK w (ow j M w) x v):gn j M w x v
 |c0 (A:Option Addr):gn j M w (.slice .c0 []) (.slice A 0 0)
 |own {k:Nat} {xs:List ag} {v:Value} {sz n:Nat} (hk:M[k]?=some (.tick sz n)) (hn:xs.length<=n) (h:fK w (ow j M w) (.slice .sh xs) v)
   (ht:xs.length=n->Hk j w k sz n v):gn j M w (.slice (.own k) xs) v
 |agg {cs:List ag} {vs:Array Value} (hl:cs.length=vs.size) (h:∀(i:Nat)(c:ag)(v:Value),cs[i]?=some c->vs[i]?=some v->gn j M w c v):gn j M w (.agg cs) (.agg vs)
 |tuple {cs:List ag} {vs:Array Value} (hl:cs.length=vs.size) (h:∀(i:Nat)(c:ag)(v:Value),cs[i]?=some c->vs[i]?=some v->gn j M w c v):gn j M w (.tuple cs) (.tuple vs)
 |ptr {id off b:Nat} (hid:id<M.length) (hc:∃cs,M[id]?=some (.cells cs)) (hj:j id=some b):gn j M w (.ptr id off) (.pointer (some ⟨b,off,none⟩))
 |ju {cs:List ag} {b off:Nat} {vs:Nat->Value} (h:∀(k:Nat)(c:ag),cs[k]?=some c->w.cell? ⟨b,off+k,none⟩=some (vs k)/\ow j M w b (off+k)/\fK w (ow j M w) c (vs k)) :
   gn j M w (.ju cs) (.pointer (some ⟨b,off,none⟩))
 |func {f:Nat} {caps:List ag} {vs:Array Value} (hl:caps.length=vs.size) (h:∀(i:Nat)(c:ag)(v:Value),caps[i]?=some c->vs[i]?=some v->gn j M w c v) :
   gn j M w (.func f caps) (.func (.func f) #[] vs)
 |gJ {id b:Nat} (hc:∃ks vs,M[id]?=some (.map ks vs)) (hj:j id=some b):gn j M w (.gJ id) (.map (some b))
 |jI {id b:Nat} (hc:∃s p,M[id]?=some (.nW s p)) (hj:j id=some b):gn j M w (.jI id) (.pointer (some ⟨b,0,none⟩))
 |iB {ks vs:List ag} {b:Nat} {es:Array MapEntry} {clock:Nat} (hb:b<w.heap.size) (hf:∀i,i<M.length->j i≠some b) (hx:∀off,¬j.X b off) (hw:w.heap[b]?=some (.map es clock)) (hk:ks.length=es.size) (hv:vs.length=es.size)
   (hks:∀(i:Nat)(k:ag)(e:MapEntry),ks[i]?=some k->es[i]?=some e->fK w (ow j M w) k e.key) (hvs:∀(i:Nat)(v:ag)(e:MapEntry),vs[i]?=some v->es[i]?=some e->BZ w (ow j M w) v e.val) :
   gn j M w (.iB ks vs) (.map (some b))
 |cY {id ver sz lo hi:Nat} {v:Value} (h0:(∃b off c,v = .slice (some ⟨b,off,none⟩) (hi-lo) c/\hi-lo<=c)\/hi-lo=0/\∃A,v = .slice A 0 0) (hid:id<M.length) (hM:∀bx,M[id]?=some bx->bx.loose=true)
   (hv:∀sz' v' xs,M[id]?=some (.arr sz' v' xs)->ver<=v'/\(v'=ver->sz'=sz/\lo<=hi/\hi<=xs.length/\((xs=[]/\j id=none/\∃A,v = .slice A 0 0)\/∃b cap vs t,j id=some b/\v = .slice (some ⟨b,lo*sz,none⟩) (hi-lo) cap/\hi-lo<=cap/\w.heap[b]?=some (.cells vs t (0,0))/\(lo+cap)*sz<=vs.size))) :
   gn j M w (.cY id ver sz lo hi) v
 |iI {id ver i off:Nat} {v:Value} (h0:∃b o,v = .pointer (some ⟨b,o,none⟩)) (hid:id<M.length) (hM:∀bx,M[id]?=some bx->bx.loose=true)
   (hv:∀sz v' xs,M[id]?=some (.arr sz v' xs)->ver<=v'/\(v'=ver->i<xs.length/\∃b,j id=some b/\v = .pointer (some ⟨b,i*sz+off,none⟩))) :
   gn j M w (.iI id ver i off) v
 |rP {f:Nat} {fs:List ag} {vs:Array Value} (hl:fs.length=vs.size) (h:∀(i:Nat)(c:ag)(v:Value),fs[i]?=some c->vs[i]?=some v->BZ w (ow j M w) c v):gn j M w (.rP f fs) (.func (.func f) vs #[])
 |jX {t id off b:Nat} (hc:∃cs,M[id]?=some (.cells cs)) (hj:j id=some b):gn j M w (.jX t id off) (.iface t (.pointer (some ⟨b,off,none⟩)))
 |any (v:Value):gn j M w .any v
def RC(j:J)(M:aO)(w:World)(cs:List ag)(vs:Array Value):Prop :=
 cs.length=vs.size/\∀(i:Nat)(c:ag)(v:Value),cs[i]?=some c->vs[i]?=some v->gn j M w c v
def Holds(j:J)(M:aO)(w:World)(b:Nat):dg->Prop
 | .cells cs=>∃vs t,w.heap[b]?=some (.cells vs t (0,0))/\RC j M w cs vs
 | .tick _ _=>True
 | .map ks vs=>∃es clock,w.heap[b]?=some (.map es clock)/\ks.length=es.size/\vs.length=es.size/\(∀(i:Nat)(k:ag)(e:MapEntry),ks[i]?=some k->es[i]?=some e->fK w (ow j M w) k e.key) /\
   ∀(i:Nat)(v:ag)(e:MapEntry),vs[i]?=some v->es[i]?=some e->gn j M w v e.val
 | .nW s pos=>w.heap[b]?=some (.stringIter (bs s) pos)
 | .arr _ _ _=>True
 | .vM=>True
structure Rel(j:J)(M:aO)(w:World):Prop where
 inj:∀i i' b,i<M.length->i'<M.length->j i=some b->j i'=some b->i=i'
 lt:∀i b,i<M.length->j i=some b->b<w.heap.size
 fix:∀i bx,M[i]?=some bx->bx.fixed=true->∃b,j i=some b/\Holds j M w b bx
 tick:∀i sz n b,M[i]?=some (.tick sz n)->j i=some b->∃vs t,w.heap[b]?=some (.cells vs t (0,0))
 arr:∀i sz ver xs,M[i]?=some (.arr sz ver xs)->(xs=[]/\j i=none)\/∃b vs t,j i=some b/\w.heap[b]?=some (.cells vs t (0,0))/\xs.length*sz<=vs.size/\(∀x,x∈xs->x.cells.length=sz) /\
  ∀(q:Nat)(x:ag)(k:Nat)(c:ag),xs[q]?=some x->x.cells[k]?=some c->∃v,vs[q*sz+k]?=some v/\fK w (ow j M w) c v
 u9:∀i b,i<M.length->j i=some b->∀off,¬j.X b off
 Ah:∀b off,j.X b off->b<w.heap.size
def Rel.box{j:J}{M:aO}{w:World}(h:Rel j M w)(i:Nat)(cs:List ag)(hi:M[i]?=some (.cells cs)):∃b vs t,j i=some b/\w.heap[b]?=some (.cells vs t (0,0))/\cs.length=vs.size /\
  ∀(q:Nat)(c:ag)(v:Value),cs[q]?=some c->vs[q]?=some v->gn j M w c v:=by
 obtain⟨b,h1,vs,t,h2,h3⟩:=h.fix i _ hi rfl;exact⟨b,vs,t,h1,h2,h3.1,h3.2⟩
structure Ext(j:J)(M:aO)(w:World)(j':J)(M':aO)(w':World):Prop where
 len:M.length<=M'.length
 size:w.heap.size<=w'.heap.size
 os:w'.os=w.os
 tape:w'.tape=w.tape
 output:w'.output=w.output
 X:j'.X=j.X
 fix:∀i bx,M[i]?=some bx->bx.fixed=true->j' i=j i/\∃bx',M'[i]?=some bx'/\bx'.tag=bx.tag
 tick:∀i sz n,M[i]?=some (.tick sz n)->∃n',n<=n'/\M'[i]?=some (.tick sz n') /\
  (n'=n->j' i=j i/\∀b vs t,j i=some b->w.heap[b]?=some (.cells vs t (0,0))->∃vs',w'.heap[b]?=some (.cells vs' t (0,0))/\vs'.size=vs.size)
 arr:∀i sz ver xs,M[i]?=some (.arr sz ver xs)->(∃n',M'[i]?=some (.tick sz n'))\/∃ver' xs',M'[i]?=some (.arr sz ver' xs')/\ver<=ver' /\
  (ver'=ver->j' i=j i/\xs'.length=xs.length/\∀b vs t,j i=some b->w.heap[b]?=some (.cells vs t (0,0))->∃vs',w'.heap[b]?=some (.cells vs' t (0,0))/\vs'.size=vs.size)
 tags:∀(b:Nat)(vs:Array Value)(t:TypeId)(fr:Nat×Nat),w.heap[b]?=some (.cells vs t fr)->∃vs' fr',w'.heap[b]?=some (.cells vs' t fr')/\vs'.size=vs.size
 im:∀b off,ow j M w b off->ow j' M' w' b off/\w'.cell? ⟨b,off,none⟩=w.cell? ⟨b,off,none⟩
 uL:∀b,b<w.heap.size->(∀i,i<M.length->j i≠some b)->w'.heap[b]?=w.heap[b]?/\∀i,i<M'.length->j' i≠some b
def Bn{a b:dg}(h:b.tag=a.tag)(ha:a.fixed=true):b.fixed=true:=by
 cases a<;>cases b<;>simp[dg.tag,dg.fixed] at * <;> omega
def FU{b:dg}(h:b.tag=0):∃cs,b = .cells cs:=by cases b<;>simp[dg.tag] at h; simp
def XW{b:dg}(h:b.tag=1):∃ks vs,b = .map ks vs:=by cases b<;>simp[dg.tag] at h; simp
def O8{b:dg}(h:b.tag=2):∃s p,b = .nW s p:=by cases b<;>simp[dg.tag] at h; simp
theorem fK.mono{w w':World}{im saf':Nat->Nat->Prop}(h:∀b off,im b off->saf' b off/\w'.cell? ⟨b,off,none⟩=w.cell? ⟨b,off,none⟩)
  {x:ag} {v:Value} (hr:fK w im x v):fK w' saf' x v:=by
 induction hr with
 |bool b=>simp[bool]
 |int k n=>exact .int k n
 |str s=>exact .str s
 |raw v h1=>exact .raw v h1
 |slice xs A len cap b off sz vs hl hc ha hz hs _ ih =>
  refine .slice _ A _ _ b _ _ _ hl hc ha hz (fun i x k c hx hk=>?_) ih
  grind
def BZ.mono{w w':World}{im saf':Nat->Nat->Prop}(h:∀b off,im b off->saf' b off/\w'.cell? ⟨b,off,none⟩=w.cell? ⟨b,off,none⟩)
  {x:ag} {v:Value} (hr:BZ w im x v):BZ w' saf' x v:=by
 by_cases hag:∃cs,x = .agg cs
 ·obtain⟨cs,rfl⟩:=hag;obtain⟨us,h1,h2,h3⟩:=hr;exact⟨us,h1,h2,fun i c u hc hu=>(h3 i c u hc hu).mono h⟩
 ·cases x<;>first|exact absurd ⟨_,rfl⟩ hag|exact fK.mono h hr
section
variable {j j' j'':J} {M M' M'':aO} {w w' w'':World}
def PK.mono{k n t:Nat}{x:Bool}{v:Value}(h:PK j w k n t x v)(hj:j' k=j k)
  (hb:∀b vs t,j k=some b->w.heap[b]?=some (.cells vs t (0,0))->∃vs',w'.heap[b]?=some (.cells vs' t (0,0))/\vs'.size=vs.size):PK j' w' k n t x v:=by
 rcases h with ⟨h1,h2,h3⟩|⟨b,cap,vs,h0,h1,h2,h3,h4,h5⟩
 ·exact .inl ⟨hj.trans h1,h2,h3⟩
 ·obtain⟨vs',h6,h7⟩:=hb b _ t h1 h3;exact .inr ⟨b,cap,vs',h0,hj.trans h1,h2,h6,aM,h5⟩
def Hk.mono{k sz n:Nat}{v:Value}(h:Hk j w k sz n v)(hj:j' k=j k)
  (hb:∀b vs t,j k=some b->w.heap[b]?=some (.cells vs t (0,0))->∃vs',w'.heap[b]?=some (.cells vs' t (0,0))/\vs'.size=vs.size):Hk j' w' k sz n v:=by
 rcases h with ⟨h1,h2,h3⟩|⟨b,cap,vs,t,h1,h2,h3,h4,h5⟩
 ·exact .inl ⟨hj.trans h1,h2,h3⟩
 ·obtain⟨vs',h6,h7⟩:=hb b _ t h1 h3;exact .inr ⟨b,cap,vs',t,hj.trans h1,h2,h6,aM,h5⟩
theorem Ext.loose(hx:Ext j M w j' M' w'){id:Nat}(hid:id<M.length)(hM:∀bx,M[id]?=some bx->bx.loose=true):(∀bx,M'[id]?=some bx->bx.loose=true) /\
  ∀sz v' xs,M'[id]?=some (.arr sz v' xs)->∃v0 xs0,M[id]?=some (.arr sz v0 xs0)/\v0<=v' /\
   (v'=v0->j' id=j id/\xs.length=xs0.length/\∀b vs t,j id=some b->w.heap[b]?=some (.cells vs t (0,0))->∃vs',w'.heap[b]?=some (.cells vs' t (0,0))/\vs'.size=vs.size):=by
 have h0:=ai hid;have hf:=hM _ h0;generalize M[id]=bx at h0 hf;cases bx with
 |cells=>cases hf
 |map=>cases hf
 |nW=>cases hf
 |vM=>cases hf
 |tick sz n =>
  obtain⟨n',h1,h2,h3⟩:=hx.tick _ _ _ h0;refine⟨fun bx hb=>?_,fun sz v' xs h=>?_⟩
  ·rw[h2] at hb; cases hb; rfl
  grind
 |arr sz v xs =>
  rcases hx.arr _ _ _ _ h0 with ⟨n',h2⟩|⟨v1,xs1,h2,h3,h4⟩
  ·refine⟨fun bx hb=>?_,fun sz v' xs h=>?_⟩
   ·rw[h2] at hb; cases hb; rfl
   grind
  ·refine⟨fun bx hb=>?_,fun sz' v' xs' h=>?_⟩
   ·rw[h2] at hb; cases hb; rfl
   grind
theorem gn.mono(hx:Ext j M w j' M' w'){x:ag}{v:Value}(hr:gn j M w x v):gn j' M' w' x v:=by
 induction hr with
 |plain h=>exact .plain (h.mono hx.im)
 |c0 A=>exact .c0 A
 |own hk hn h ht =>
  obtain⟨n',h1,h2,h3⟩:=hx.tick _ _ _ hk;refine .own h2 aM (h.mono hx.im) (fun he=>?_)
  have:n'=_:=Nat.le_antisymm aM h1;obtain⟨h4,h5⟩:=h3 this;subst this;exact(ht he).mono h4 h5
 |agg hl _ ih=>exact .agg hl ih
 |tuple hl _ ih=>exact .tuple hl ih
 |ptr hid hc hj =>
  obtain⟨cs,hc⟩:=hc;obtain⟨h1,bx,h2,h3⟩:=hx.fix _ _ hc rfl;obtain⟨cs',rfl⟩:=FU h3;exact .ptr (bz hid hx.len) ⟨_,h2⟩ (h1.trans hj)
 | @ju cs b off vs h =>
  refine .ju (vs:=vs) fun k c hk=>?_
  obtain⟨h1,h2,h3⟩:=h k c hk;obtain⟨h4,h5⟩:=hx.im _ _ h2;exact⟨h5.trans h1,h4,h3.mono hx.im⟩
 |func hl _ ih=>exact .func hl ih
 |gJ hc hj =>
  obtain⟨ks,vs,hc⟩:=hc;obtain⟨h1,bx,h2,h3⟩:=hx.fix _ _ hc rfl;obtain⟨ks',vs',rfl⟩:=XW h3;exact .gJ ⟨_,_,h2⟩ (h1.trans hj)
 |jI hc hj =>
  obtain⟨ks,vs,hc⟩:=hc;obtain⟨h1,bx,h2,h3⟩:=hx.fix _ _ hc rfl;obtain⟨ks',vs',rfl⟩:=O8 h3;exact .jI ⟨_,_,h2⟩ (h1.trans hj)
 |iB hb hf hxx hw hk hv hks hvs =>
  obtain⟨h1,h2⟩:=hx.uL _ hb hf;exact .iB (bz hb hx.size) h2 (by rw[hx.X]; omega) (h1.trans hw) hk hv (fun i k e h1 h2=>(hks i k e h1 h2).mono hx.im) (fun i k e h1 h2=>(hvs i k e h1 h2).mono hx.im)
 |cY hs hid hM hv =>
  obtain⟨g1,g2⟩:=hx.loose hid hM;refine .cY hs (bz hid hx.len) g1 fun sz v' xs h=>?_
  obtain⟨v0,xs0,h0,h1,h2⟩:=g2 sz v' xs h;obtain⟨h3,h4⟩:=hv sz v0 xs0 h0;refine⟨aM,fun he=>?_⟩
  obtain⟨h5,h6,h7⟩:=h2 aM;obtain⟨l0,l1,l2,⟨rfl,l3,l4⟩|⟨b,cap,vs,t,l3,l4,l5,l6,l7⟩⟩:=h4 aM
  ·exact⟨l0,l1,aM,.inl ⟨cK aM,h5.trans l3,l4⟩⟩
  obtain⟨vs',l8,l9⟩:=h7 b vs t l3 l6;exact⟨l0,l1,aM,.inr ⟨b,cap,vs',t,h5.trans l3,l4,l5,l8,aM⟩⟩
 |iI hs hid hM hv =>
  obtain⟨g1,g2⟩:=hx.loose hid hM;refine .iI hs (bz hid hx.len) g1 fun sz v' xs h=>?_
  grind
 |rP hl h=>exact .rP hl fun i c v hc hv=>(h i c v hc hv).mono hx.im
 |jX hc hj =>
  obtain⟨cs,hc⟩:=hc;obtain⟨h1,bx,h2,h3⟩:=hx.fix _ _ hc rfl;obtain⟨cs',rfl⟩:=FU h3;exact .jX ⟨_,h2⟩ (h1.trans hj)
 |any v=>exact .any v
def Holds.mono{b:Nat}{bx:dg}(hx:Ext j M w j' M' w')(hb:w'.heap[b]?=w.heap[b]?)(h:Holds j M w b bx):Holds j' M' w' b bx:=by
 cases bx with
 |cells cs =>
  obtain⟨vs,t,h1,h2,h3⟩:=h;exact⟨vs,t,hb.trans h1,h2,fun i c v hc hv=>(h3 i c v hc hv).mono hx⟩
 |tick=>trivial
 |map ks vs =>
  obtain⟨es,clock,h1,h2,h3,h4,h5⟩:=h;exact⟨es,clock,hb.trans h1,h2,h3,fun i k e hk he=>(h4 i k e hk he).mono hx.im,fun i k e hk he=>(h5 i k e hk he).mono hx⟩
 |nW s pos=>exact hb.trans h
 |arr=>trivial
 |vM=>trivial
theorem Holds.lt{b:Nat}{bx:dg}(h:Holds j M w b bx)(hf:bx.fixed=true):∃o,w.heap[b]?=some o:=by
 cases bx with
 |cells cs=>obtain⟨vs,t,h1,_⟩:=h; grind
 |tick=>cases hf
 |map ks vs=>obtain⟨es,clock,h1,_⟩:=h; grind
 |nW s pos=>exact⟨_,h⟩
 |arr=>cases hf
 |vM=>cases hf
def Ext.refl(j:J)(M:aO)(w:World):Ext j M w j M w where
 len:=ak _
 size:=ak _
 os:=rfl
 tape:=rfl
 output:=rfl
 X:=rfl
 fix:=fun i bx h _=>⟨rfl,bx,h,rfl⟩
 tick:=fun i sz n h=>⟨n,ak _,h,fun _=>⟨rfl,fun b vs t _ h=>⟨vs,h,rfl⟩⟩⟩
 arr:=fun i sz v xs h => .inr ⟨v,xs,h,ak _,fun _=>⟨rfl,rfl,fun b vs t _ h=>⟨vs,h,rfl⟩⟩⟩
 tags:=fun b vs t fr h=>⟨vs,fr,h,rfl⟩
 im:=fun b off h=>⟨h,rfl⟩
 uL:=fun b hb h=>⟨rfl,h⟩
theorem Ext.trans(h:Ext j M w j' M' w')(k:Ext j' M' w' j'' M'' w''):Ext j M w j'' M'' w'' where
 len:=bg h.len k.len
 size:=bg h.size k.size
 os:=k.os.trans h.os
 tape:=k.tape.trans h.tape
 output:=k.output.trans h.output
 X:=k.X.trans h.X
 fix:=fun i bx hi hf=>by
  obtain⟨h1,bx',h2,h3⟩:=h.fix i bx hi hf;have hf':bx'.fixed=true:=Bn h3 hf;obtain⟨h4,bx'',h5,h6⟩:=k.fix i bx' h2 hf'
  grind
 tick:=fun i sz n hi=>by
  obtain⟨n1,a1,a2,a3⟩:=h.tick i sz n hi;obtain⟨n2,b1,b2,b3⟩:=k.tick i sz n1 a2
  grind
 arr:=fun i sz v xs hi=>by
  rcases h.arr i sz v xs hi with ⟨n1,a1⟩|⟨v1,xs1,a1,a2,a3⟩
  ·obtain⟨n2,_,b2,_⟩:=k.tick i sz n1 a1
   grind
  ·rcases k.arr i sz v1 xs1 a1 with ⟨n2,b1⟩|⟨v2,xs2,b1,b2,b3⟩
   ·grind
   grind
 tags:=fun b vs t fr hb=>by
  obtain⟨vs1,fr1,h1,h2⟩:=h.tags b vs t fr hb;obtain⟨vs2,fr2,h3,h4⟩:=k.tags b vs1 t fr1 h1
  grind
 im:=fun b off hs=>by
  obtain⟨h1,h2⟩:=h.im b off hs;obtain⟨h3,h4⟩:=k.im b off h1
  grind
 uL:=fun b hb hn=>by
  obtain⟨h1,h2⟩:=h.uL b hb hn;obtain⟨h3,h4⟩:=k.uL b (bz hb h.size) h2
  grind
theorem Ext.grow(hsz:w.heap.size<=w'.heap.size)(hos:w'.os=w.os)(ht:w'.tape=w.tape)(ho:w'.output=w.output)
  (hb:∀b,b<w.heap.size->w'.heap[b]?=w.heap[b]?):Ext j M w j M w' where
 len:=ak _
 size:=hsz
 os:=hos
 tape:=ht
 output:=ho
 X:=rfl
 fix:=fun i bx h _=>⟨rfl,bx,h,rfl⟩
 tick:=fun i sz n h=>⟨n,ak _,h,fun _=>⟨rfl,fun b vs t _ hv=>by
  grind⟩⟩
 arr:=fun i sz v xs h => .inr ⟨v,xs,h,ak _,fun _=>⟨rfl,rfl,fun b vs t _ hv=>by
  grind⟩⟩
 tags:=fun b vs t fr h=>by
  grind
 im:=fun b off h=>⟨⟨bz h.1 hsz,h.2,h.3⟩,World.cell?_of_block (hb b h.1)⟩
 uL:=fun b cA h=>⟨hb b cA,h⟩
theorem Rel.grow(hr:Rel j M w)(hsz:w.heap.size<=w'.heap.size)(hos:w'.os=w.os)(ht:w'.tape=w.tape)(ho:w'.output=w.output)
  (hb:∀b,b<w.heap.size->w'.heap[b]?=w.heap[b]?):Rel j M w' where
 inj:=hr.inj
 lt:=fun i b hi h=>bz (hr.lt i b hi h) hsz
 fix:=fun i bx h hf=>by
  obtain⟨b,h1,h2⟩:=hr.fix i _ h hf;have hi  := (au.1 h).1;exact⟨b,h1,h2.mono (Ext.grow hsz hos ht ho hb) (hb b (hr.lt i b hi h1))⟩
 tick:=fun i sz n b h hj=>by
  obtain⟨vs,t,h1⟩:=hr.tick i _ n b h hj
  grind
 arr:=fun i sz v xs h=>by
  rcases hr.arr i _ v _ h with he|⟨b,vs,t,h1,h2,h3,h4,h5⟩
  ·exact .inl he
  have hi  := (au.1 h).1;refine .inr ⟨b,vs,t,h1,(hb b (hr.lt i b hi h1)).trans h2,h3,h4,fun q x k c hx hk=>?_⟩
  obtain⟨u,h6,h7⟩:=h5 q x k c hx hk;exact⟨u,h6,h7.mono (Ext.grow hsz hos ht ho hb).im⟩
 u9:=hr.u9
 Ah:=fun b off h=>bz (hr.Ah b _ h) hsz
end
class jw where
 g:Nat->Option (List Value)
 q:Nat->Option (Value->Prop):=fun _=>none
 u8:Nat:=0
structure sS[jw](j:J)(M:aO)(w:World):Prop where
 g:∀b vs k v,jw.g b=some vs->vs[k]?=some v->ow j M w b k/\w.cell? ⟨b,k,none⟩=some v
 n:∀b vs,jw.g b=some vs->∃us t fr,w.heap[b]?=some (.cells us t fr)/\us.size=vs.length
 q:∀b p,jw.q b=some p->∃v,p v/\ow j M w b 0/\w.cell? ⟨b,0,none⟩=some v
theorem sS.im[jw]{j j':J}{M M':aO}{w:World}(h:sS j M w)(hx:∀b off,ow j M w b off->ow j' M' w b off):sS j' M' w where
 g:=fun b vs k v hb hk=>⟨hx _ _ (h.g b _ k v hb hk).1,(h.g b _ k v hb hk).2⟩
 n:=h.n
 q:=fun b p hb=>by
  obtain⟨v,h0,h1,h2⟩:=h.q b p hb
  grind
theorem sS.mono[jw]{j j':J}{M M':aO}{w w':World}(h:sS j M w)(hx:Ext j M w j' M' w'):sS j' M' w' where
 g:=fun b vs k v hb hk=>by
  obtain⟨h1,h2⟩:=h.g b _ k v hb hk;obtain⟨h3,h4⟩:=hx.im _ _ h1
  grind
 n:=fun b vs hb=>by
  obtain⟨us,t,fr,h1,h2⟩:=h.n b _ hb;obtain⟨us',fr',h3,h4⟩:=hx.tags b _ t _ h1
  grind
 q:=fun b p hb=>by
  obtain⟨v,h0,h1,h2⟩:=h.q b p hb;obtain⟨h3,h4⟩:=hx.im _ _ h1
  grind
variable [jw]
structure cE(j:J)(M:aO)(w:World)(bq:Env)(a:Act):Prop where
 at':∀t,gn j M w (gW bq t) (a.tmps.getD t undef)
 gl:sS j M w
def cE.mono{j j':J}{M M':aO}{w w':World}{bq:Env}{a:Act}(h:cE j M w bq a)(hx:Ext j M w j' M' w'):cE j' M' w' bq a :=
 ⟨fun t=>(h.at' t).mono hx,h.gl.mono hx⟩
def cE.put{j:J}{M:aO}{w:World}{bq:Env}{a:Act}{n:Nat}(h:cE j M w bq a)(hs:a.tmps.size=n){dst:Option Nat}(hd:∀d,dst=some d->d<n)
  {x:ag} {v:Value} (hv:gn j M w x v):cE j M w (rK bq dst x) (a.put dst v):=by
 refine⟨fun t=>?_,h.gl⟩
 cases dst with
 |none=>exact h.at' t
 |some d =>
  simp[rK,gW,Act.put]
  by_cases he:d=t
  ·simp_all
  ·have:=h.at' t;simp_all
theorem yR(bq:Env)(live:List Nat)(t:Nat):gW (jt bq live) t=if t∈live then gW bq t else .any:=by
 induction live<;>grind [jt,gW]
def cE.tv{j:J}{M:aO}{w:World}{bq:Env}{a:Act}(h:cE j M w bq a)(live:List Nat):cE j M w (jt bq live) a:=by
 refine⟨fun t=>?_,h.gl⟩
 rw[yR];split
 ·exact h.at' t
 ·exact .any _
end
section
open Go
def JJ:Value->Option ag
 | .bool b=>some (.bool b)
 | .int k n=>some (.int k n)
 | .string s=>some (.str s.data.toList)
 | .slice none 0 0=>some (.slice .c0 [])
 | .pointer none=>some (.raw (.pointer none))
 | .nilFunc=>some (.raw .nilFunc)
 | .nilIface=>some (.raw .nilIface)
 | .map none=>some (.raw (.map none))
 |_=>none
def tn:List Value->Option (List ag)
 | []=>some []
 |v::r=>(JJ v).bind fun x=>(tn r).bind fun l=>some (x::l)
def PM:Value->Option ag
 | .agg vs=>(tn vs.toList).bind fun l=>some (.agg l)
 |v=>JJ v
def Ye:Value->Option ag
 | .bool b=>some (.bool b)
 | .int k n=>some (.int k n)
 | .string s=>some (.str s.data.toList)
 | .pointer none=>some (.raw (.pointer none))
 | .nilIface=>some (.raw .nilIface)
 |_=>none
def PL:List Value->Option (List ag)
 | []=>some []
 |v::r=>(Ye v).bind fun x=>(PL r).bind fun l=>some (x::l)
variable [jw]
def aea:Operand->Operand->Bool
 | .tmp x,.tmp y=>x==y
 | .const (.int k x),.const (.int l y)=>decide (k=l)&&decide (x=y)
 |_,_=>false
def XY:∀ {x y:Operand},aea x y=true->x=y:=by
 intro x y h;unfold aea at h;split at h<;>simp_all
def ew:Operand->Option gw
 | .tmp t=>some (.tmp t)
 | .const v=>(PM v).bind fun x=>some (.kj x)
 | .func f=>some (.kj (.func f []))
 | .global g=>(jw.g g).bind fun vs=>(PL vs).bind fun l=>some (.kj (.ju l))
def PY:Operand->Option gw
 | .func f=>some (.kj (.raw (.func (.func f) ⟨[]⟩ ⟨[]⟩)))
 |x=>ew x
def xJ(n:Nat):List (Nat×Operand)->Option (List (Nat×Nat×gw))
 | []=>some []
 |(i,x)::r=>(ew x).bind fun y=>(xJ n r).bind fun l=>some ((i*n,n,y)::l)
def vg:List Operand->Option (List gw)
 | []=>some []
 |x::r=>(ew x).bind fun y=>(vg r).bind fun l=>some (y::l)
def yJ:Option Operand->Option (Option gw)
 |none=>some none
 |some x=>(ew x).bind fun y=>some (some y)
def qg(P:Program)(t:TypeId):Option Nat:=(P.info? t).bind fun i=>some i.size
def B1(P:Program)(t:TypeId):Option Bool:=(P.underlying t).bind fun d=>some (match d with | .struct _ | .array _ _=>true|_=>false)
def Ay(P:Program)(fs:Array Field):List (Nat×Operand)->Option (List (Nat×Nat×gw))
 | []=>some []
 |(i,x)::r=>(fs[i]?).bind fun f=>(qg P f.type).bind fun n=>(ew x).bind fun y=>(Ay P fs r).bind fun l=>some ((f.offset,n,y)::l)
def Gk:Nat->List (Nat×Operand)->Option (List gw)
 |_,[]=>some []
 |k,(i,x)::r=>if i=k then (ew x).bind fun y=>(Gk (k+1) r).bind fun l=>some (y::l) else none
def Qw (P:Program) (f:Field):Option FK:=if f.name = "_" then none else match P.underlying f.type with
 |some .bool=>some .b
 |some (.int _)=>some .i
 |some .string=>some .s
 |_=>none
def BC(P:Program):Nat->List Field->Option (List FK)
 |_,[]=>some []
 |k,f::r=>if f.offset=k then (Qw P f).bind fun x=>(BC P (k+1) r).bind fun l=>some (x::l) else none
def De(P:Program)(t:TypeId):Option FK:=match P.underlying t with
 |some .bool=>some .b
 |some (.int _)=>some .i
 |some .string=>some .s
 |_=>none
def Ns:BinOp->Option M6
 | .and=>some .and | .or=>some .or | .andNot=>some .bic
 | .add=>some .add | .sub=>some .sub | .mul=>some .mul | .quo=>some .quo | .rem=>some .rem
 | .eql=>some .eql | .neq=>some .neq | .lss=>some .lss | .leq=>some .leq | .gtr=>some .gtr | .geq=>some .geq
 | .shl=>some .shl | .shr=>some .shr
 |_=>none
def k6 (P:Program) (f:Nat):Bool:=match P.funcs[f]? with|some fn=>fn.name != "runtime.NumGoroutine" && fn.body.isSome|none=>false
def PX(P:Program)(own:List Nat)(dst:Option Nat)(type:TypeId)(c:Call):Option kb :=
 match c.callee with
 | .value (.func f)=>if k6 P f then (vg c.args.toList).bind fun l=>some (if own.contains (1000000+f) then .Bv f l else if own.contains (2000000+f) then .mS f l else if own.contains (8000000+f) then .wE f l else .call f l) else none
 | .value (.tmp t)=>(vg c.args.toList).bind fun l=>some (if own.contains (12000000+t) then .Bw (.tmp t) l else .sy (.tmp t) l)
 | .builtin .len=>match c.args.toList,(c.argTypes[0]?).bind P.underlying with
  | [x],some .string=>(ew x).bind fun y=>some (.Tr y)
  | [x],some (.slice _)=>(ew x).bind fun y=>some (.vu y)
  | [x],some (.map _ _)=>(ew x).bind fun y=>some (.Oo y)
  |_,_=>none
 | .builtin .copy=>match c.args.toList,c.argTypes.toList with
  | [x,y],[t,t']=>match P.underlying t,P.underlying t' with
   |some (.slice e),some (.slice _)=>(qg P e).bind fun n=>(ew x).bind fun x=>(ew y).bind fun y=>if 0<n then some (.Ex n x y) else none
   |_,_=>none
  |_,_=>none
 | .builtin .append=>match c.args.toList,c.argTypes.toList with
  | [x,y],[t,t']=>match P.underlying t,P.underlying t' with
   |some (.slice e),some (.int _)=>(P.info? e).bind fun i=>i.zero.bind fun z=>(tn z.cells.toList).bind fun l=>(ew x).bind fun x=>(ew y).bind fun y =>
    if l.length=i.size/\0<i.size/\0<i.bytes/\i.bytes<=2 ^ 20 then some (.xE i.size i.bytes (l.map ag.shut) x y) else none
   |some (.slice e),some (.slice _)=>(P.info? e).bind fun i=>(ew x).bind fun x=>(ew y).bind fun y =>
    if decide ((i.zero.map fun z=>z.cells.size)=some i.size)&&decide (0<i.size)&&decide (0<i.bytes)&&decide (i.bytes<=2 ^ 20) then some (match dst with|some d=>if own.contains (7000000+d) then .vP i.size i.bytes x y else .append i.size i.bytes x y|none => .append i.size i.bytes x y) else none
   |_,_=>none
  |_,_=>none
 | .builtin .clear=>match c.args.toList,c.argTypes.toList with
  | [x],[t]=>match P.underlying t with
   |some (.slice e)=>(P.info? e).bind fun i=>i.zero.bind fun z=>(tn z.cells.toList).bind fun l=>(ew x).bind fun x =>
    if l.length=i.size/\0<i.size then some (.w5 i.size (l.map ag.shut) x) else none
   |_=>none
  |_,_=>none
 | .builtin .max=>match c.args.toList with|[x,y]=>(ew x).bind fun x=>(ew y).bind fun y=>some (.A6 true x y)|_=>none
 | .builtin .min=>match c.args.toList with|[x,y]=>(ew x).bind fun x=>(ew y).bind fun y=>some (.A6 false x y)|_=>none
 |_=>none
def PZ(own:List Nat)(dst:Option Nat)(n:Nat)(x:gw)(lo hi mx:Option gw):kb :=
 match dst,hi with
 |some d,some h=>if own.contains (15000000+d)&&lo.isNone&&mx.isNone then .NF n x h else .uz n x lo hi mx
 |_,_ => .uz n x lo hi mx
def Nt(P:Program)(own:List Nat)(o:Oper):Option kb :=
 match o.op with
 | .move x=>(ew x).bind fun x=>some (.mv x)
 | .assign x=>(ew x).bind fun x =>
  match o.dst with
  |some d=>if own.contains d then match P.underlying o.type with
    |some (.slice e)=>(qg P e).bind fun n=>match x with
     | .kj (.slice .c0 [])=>some (.own n x)
     |_=>some (.mv x)
    |_=>none
   else if own.contains (13000000+d) then match P.underlying o.type with
    |some (.slice e)=>(qg P e).bind fun n=>some (.own (500+n) x)
    |_=>none
   else some (.mv x)
  |none=>some (.mv x)
 | .pick c a b=>(ew c).bind fun c=>(ew a).bind fun a=>(ew b).bind fun b=>some (.pick c a b)
 | .alloc t=>(P.info? t).bind fun i=>i.zero.bind fun z=>(tn z.cells.toList).bind fun l =>
  match o.dst with
  |some d=>if own.contains (6000000+d) then (match P.underlying t,l with
    |some (.slice e),[.slice .c0 []]=>(qg P e).bind fun n=>some (.Nr n)
    |_,_=>none) else some (.sv l)
  |none=>some (.sv l)
 | .box t x=>(ew x).bind fun x=>some (.box x)
 | .build t parts=>match P.underlying t with
  |some (.struct fs)=>(P.info? t).bind fun i=>i.zero.bind fun z=>(tn z.cells.toList).bind fun l=>(Ay P fs parts.toList).bind fun ps =>
   if fs.all (fun f=>(P.info? f.type).isSome) then some (.build l ps) else none
  |some (.array _ e)=>(P.info? t).bind fun i=>i.zero.bind fun z=>(tn z.cells.toList).bind fun l=>(qg P e).bind fun n=>(xJ n parts.toList).bind fun ps=>some (.build l ps)
  |_=>none
 | .buildSlice t len parts=>match P.underlying t with
  |some (.slice e)=>(P.info? e).bind fun i=>(Gk 0 parts.toList).bind fun l =>
   if l.length=len/\len*i.size<=2 ^ 24/\(i.zero.map fun z=>z.cells.size)=some i.size/\0<i.size then some (match o.dst with|some d=>if own.contains d then .E9 i.size l else if own.contains (13000000+d)&&l.isEmpty then .own (500+i.size) (.kj (.slice .c0 [])) else .lits i.size l|none => .lits i.size l) else none
  |_=>none
 | .load t x=>(B1 P t).bind fun g=>(qg P t).bind fun n=>(ew x).bind fun x=>some (if g then .kl n x else .mY x)
 | .store t a x=>(qg P t).bind fun n=>(ew a).bind fun a=>(ew x).bind fun x=>some (match a with
  | .tmp s=>match own.find? (fun m=>decide (1000000000<=m)&&decide (m<2000000000)&&decide (m % 1000=s)) with
   |some m => .Bk (m / 1000000 % 1000) (m / 1000 % 1000) n a x
   |none => .store n a x
  |_ => .store n a x)
 | .nilCheck x=>(ew x).bind fun x=>some (.chk x)
 | .binOp op t x y _=>(ew x).bind fun x=>(ew y).bind fun y=>match P.underlying t with
  |some (.int _)|some .string=>(Ns op).bind fun b=>some (.bin b x y)
  |some .bool=>match op with
   | .eql=>some (.eqB false x y)
   | .neq=>some (.eqB true x y)
   |_=>none
  |some (.struct fs)=>if P.stoodInHeld t then none else (BC P 0 fs.toList).bind fun ks=>match op with
   | .eql=>some (.VP ks false x y)
   | .neq=>some (.VP ks true x y)
   |_=>none
  |some (.array len e)=>match P.underlying e,op with
   |some (.int _),.eql=>if qg P e=some 1 then some (.VP (List.replicate len .i) false x y) else none
   |_,_=>none
  |_=>none
 | .unOp .not _ x=>(ew x).bind fun x=>some (.not x)
 | .unOp .neg _ x=>(ew x).bind fun x=>some (.neg x)
 | .convert s d x=>(ew x).bind fun x=>match P.underlying s,P.underlying d with
  |some (.int _),some (.int k)=>some (.conv k x)
  |some .string,some .string=>some (.same x)
  |some (.slice e),some .string=>match P.underlying e with|some (.int .u8)=>some (.b2s x)|_=>none
  |_,_=>none
 | .makeFunc (.func f) first caps=>if first.isEmpty then (vg caps.toList).bind fun l=>some (.fn f l) else if caps.isEmpty then (vg first.toList).bind fun l=>some (.Ep f l) else none
 | .slice t x lo hi mx=>(ew x).bind fun x=>(yJ lo).bind fun lo=>(yJ hi).bind fun hi=>(yJ mx).bind fun mx=>match P.underlying t with
  |some .string=>if mx.isNone then some (.Bh x lo hi) else none
  |some (.slice e)=>(qg P e).bind fun n=>if 0<n/\(mx.isNone\/hi.isSome) then some (PZ own o.dst n x lo hi mx) else none
  |_=>none
 | .fieldAddr s x f=>match P.underlying s with
  |some (.struct fs)=>(fs[f]?).bind fun f=>(qg P f.type).bind fun n=>(ew x).bind fun x=>if 0<n then some (.pX f.offset x) else none
  |_=>none
 | .field s x f=>match P.underlying s with
  |some (.struct fs)=>(fs[f]?).bind fun f=>(B1 P f.type).bind fun g=>(qg P f.type).bind fun n=>(ew x).bind fun x=>some (if g then .CX f.offset n x else .CW f.offset x)
  |_=>none
 | .indexAddr t x i=>match P.underlying t with
  |some (.slice e)=>(qg P e).bind fun n=>(ew x).bind fun x=>(ew i).bind fun i=>if 0<n then some (.rD n x i) else none
  |some (.array len e)=>(qg P e).bind fun n=>(ew x).bind fun x=>(ew i).bind fun i=>if 0<n then some (.AP len n x i) else none
  |_=>none
 | .index t x i=>match P.underlying t with
  |some .string=>(ew x).bind fun x=>(ew i).bind fun i=>some (.AQ x i)
  |_=>none
 | .extract x i=>(ew x).bind fun x=>some (.extract x i)
 | .call c=>PX P own o.dst o.type c
 | .makeMap _ none=>some .mkMap
 | .lookup t x i ok=>match P.underlying t with
  |some (.map k e)=>(De P k).bind fun fk=>(P.info? e).bind fun ie=>ie.zero.bind fun zv=>(PM zv).bind fun z=>(ew x).bind fun x=>(ew i).bind fun i=>some (.look fk z ok x i)
  |_=>none
 | .mapUpdate t m k v=>match P.underlying t with
  |some (.map kt _)=>(De P kt).bind fun fk=>(ew m).bind fun m=>(ew k).bind fun k=>(ew v).bind fun v=>some (.gD fk m k v)
  |_=>none
 | .range t x=>match P.underlying t with
  |some .string=>(ew x).bind fun x=>some (.OY x)
  |_=>none
 | .next it true=>(ew it).bind fun it=>some (.Fo it)
 | .makeInterface t x=>(ew x).bind fun x=>match P.underlying t with
  |some (.interface _)=>none
  |some _=>some (.iface t x)
  |none=>none
 | .panic x=>(ew x).bind fun x=>some (.raise x)
 | .insert t m k v=>match P.underlying t with
  |some (.map kt _)=>(De P kt).bind fun fk=>(ew m).bind fun m=>(ew k).bind fun k=>(PY v).bind fun v=>some (.gD fk m k v)
  |_=>none
 | .makeSlice t x y=>match P.underlying t with
  |some (.slice e)=>(P.info? e).bind fun i=>i.zero.bind fun z=>(tn z.cells.toList).bind fun l=>(ew x).bind fun x' =>
   if aea x y=true/\l.length=i.size/\0<i.size/\i.bytes<=32*i.size then some (match o.dst with|some d=>if own.contains (5000000+d) then .Oy (l.map ag.shut) x' else .mkS (l.map ag.shut) x'|none => .mkS (l.map ag.shut) x') else none
  |_=>none
 |_=>none
structure zi where
 n:Nat
 own:List Nat:=[]
 lv:List (Nat×List Nat)
 lp:List (Nat×List Nat):=[]
def find(l:List (Nat×List Nat))(k:Nat):List Nat:=match l with
 | []=>[]
 |(i,x)::r=>if i=k then x else find r k
def Yq(n:Nat):Option Nat->Bool
 |some d=>decide (d<n)
 |none=>true
def LJ(P:Program)(A:zi)(ops:Array Oper)(grow:Bool)(o:Oper):Option cX :=
 (Nt P A.own o).bind fun op =>
  if Yq A.n o.dst then
   match o.guard with
   |none=>some { dst:=o.dst,op,guard:=none,grow }
   |some (k,want)=>((ops[k]?).bind (·.dst)).bind fun t=>if t<A.n then some { dst:=o.dst,op,guard:=some (t,want),grow } else none
  else none
def sU(P:Program)(A:zi)(ops:Array Oper)(grow:List Bool):List Oper->Option (List cX)
 | []=>some []
 |o::r=>(LJ P A ops (grow.headD false) o).bind fun x=>(sU P A ops grow.tail r).bind fun l=>some (x::l)
def j7:Code->Nat
 | .region id _ _=>id
 | .seq a _=>j7 a
 | .block _ c=>j7 c
 | .loop c=>j7 c
 | .cond _ a _=>j7 a
 |_=>0
def gw.lD:gw->List Nat
 | .tmp t=>[t]
 | .kj _=>[]
def A9:Option gw->List Nat
 |some x=>x.lD
 |none=>[]
def kb.lD:kb->List Nat
 | .mv x | .own _ x | .box x | .kl _ x | .mY x | .chk x | .not x | .neg x | .conv _ x | .same x | .pX _ x | .CX _ _ x | .CW _ x | .extract x _ | .Tr x | .vu x | .b2s x | .Oo x | .OY x | .Fo x | .w5 _ _ x | .iface _ x | .raise x | .mkS _ x | .Oy _ x=>x.lD
 | .pick c a b=>c.lD++(a.lD++b.lD)
 | .sv _ | .mkMap | .Nr _=>[]
 | .build _ ps=>ps.flatMap fun p=>p.2.2.lD
 | .lits _ ps | .E9 _ ps=>ps.flatMap gw.lD
 | .store _ a x | .Bk _ _ _ a x=>a.lD++x.lD
 | .gD _ m k v=>m.lD++(k.lD++v.lD)
 | .bin _ x y | .look _ _ _ x y | .VP _ _ x y | .eqB _ x y | .rD _ x y | .AP _ _ x y | .AQ x y | .NF _ x y | .append _ _ x y | .vP _ _ x y | .A6 _ x y | .xE _ _ _ x y | .Ex _ x y=>x.lD++y.lD
 | .fn _ l | .Ep _ l=>l.flatMap gw.lD
 | .Bh x l h=>x.lD++(A9 l++A9 h)
 | .uz _ x l h m=>x.lD++(A9 l++(A9 h++A9 m))
 | .call _ l | .Bv _ l | .mS _ l | .wE _ l=>l.flatMap gw.lD
 | .sy f l | .Bw f l=>f.lD++l.flatMap gw.lD
def kb.Ps:kb->Bool
 | .own .. | .E9 .. | .Oy .. | .xE .. | .Ex .. | .Nr _ | .sv _ | .box _ | .store .. | .Bk .. | .call .. | .sy .. | .Bw .. | .Bv .. | .mS .. | .wE .. | .w5 .. | .append .. | .vP .. | .mkMap | .gD .. | .Oo _ | .OY _ | .Fo _=>true
 |_=>false
def kb.Pt:kb->Bool
 | .kl .. | .mY _ | .look .. => true
 |_=>false
def cX.reads(o:cX):List Nat:=o.op.lD++(match o.guard with|some (t,_)=>[t]|none=>[])
def xj(acc:List Nat):List Edge->Nat
 | []=>0
 |e::r=>if Region.binds .any e then xj acc r ||| (2 ^ e.on ||| (nth acc e.on).getD 0) else xj acc r
def CG:List Oper->List Nat->List Nat
 | [],acc=>acc
 |o::r,acc=>CG r (acc++[xj acc o.after.toList])
def qT(ops:List Oper):List Nat:=CG ops []
def ahead(bs:List Nat)(i k:Nat):Bool:=((nth bs k).getD 0).testBit i
def meet(x y:cX):Bool :=
 (match x.dst with|some d=>y.reads.contains d||y.dst==some d|none=>false)||(match y.dst with|some d=>x.reads.contains d|none=>false)
def fenced(bs:List Nat)(l:List cX)(k:Nat):Bool:=(List.range l.length).all fun i=>match nth l i with
 |some x => !x.op.Pt||(if i<k then ahead bs i k else i==k||ahead bs k i)
 |none=>true
def kb.xf:kb->Bool
 | .call .. | .sy .. => true
 |_=>false
def ordered(bs:List Nat)(i k:Nat):Bool:=i==k||(if i<k then ahead bs i k else ahead bs k i)
def alone(bs:List Nat)(l:List cX)(k:Nat):Bool:=(List.range l.length).any fun i=>match nth l i with
 |some x=>x.op.Ps && !ordered bs i k
 |none=>false
def kb.MU:kb->Option Nat
 | .mY (.tmp z)=>some z
 | .kl _ (.tmp z)=>some z
 | .look _ _ _ (.tmp z) _=>some z
 |_=>none
def kb.al1:kb->Bool
 | .store .. => true
 | .append .. | .vP .. => true
 |_=>false
def aie(l:List cX)(i k z:Nat):Bool:=(List.range k).all fun p=>decide (p<i)||match nth l p with|some x=>x.dst != some z|none=>true
def Lm(bs:List Nat)(l:List cX)(k:Nat):Bool:=(List.range l.length).all fun i=>i==k||(if i<k then (ahead bs i k||match nth l i with|some x => !x.op.Ps|none=>false) else ahead bs k i)
def MS(bs:List Nat)(l:List cX)(k:Nat):List Nat:=(List.range k).filterMap fun i=>match nth l i with
 |some x=>if x.op.Pt && !ahead bs i k then x.op.MU else none
 |none=>none
def Cn(bs:List Nat)(l:List cX)(k:Nat)(sep:List Nat):Bool:=(List.range l.length).all fun i=>match nth l i with
 |some x => !x.op.Pt||i==k||(if i<k then (ahead bs i k||match x.op.MU with|some z=>sep.contains z&&aie l i k z|none=>false) else ahead bs k i)
 |none=>true
def kE(bs:List Nat)(l:List cX):Nat->List cX->List cX
 |_,[]=>[]
 |k,x::r=>{ x with grow:=x.op.Ps && !(x.op.xf&&alone bs l k) && !fenced bs l k,xm:=x.op.xf&&alone bs l k,sep:=if x.op.al1 && !fenced bs l k&&Cn bs l k (MS bs l k) then MS bs l k else [],stop := !x.op.P2||Lm bs l k }::kE bs l (k+1) r
def cX.uf(x:cX):Bool:=x.op.Ps && !x.xm
def KY:kb->Bool
 | .mY (.kj _) | .kl _ (.kj _) | .look _ _ _ (.kj _) _=>false
 |_=>true
def BI(ops:Array Oper)(l:List cX)(k:Nat):Bool:=match ops[k]?,nth l k with
 |some o,some y=>(match y.op with
  | .sv _=>(match o.op with | .alloc _=>true|_=>false)
  | .box _=>(match o.op with | .box _ _=>true|_=>false)
  | .wE .. => (match o.op with | .call c=>(match c.callee with | .value (.func _)=>true|_=>false)|_=>false)
  |_=>false)&&y.guard.isNone
 |_,_=>false
def GS(ops:Array Oper)(bs:List Nat)(l:List cX):Bool:=(List.range l.length).all fun k=>match nth l k,ops[k]? with
 |some y,some o=>o.after.toList.all (fun e => !Region.binds .any e||decide (e.on<k))&&((!y.xm||y.op.xf)&&KY y.op)&&((!(y.uf && !y.grow)||fenced bs l k)&&(y.sep.isEmpty||Cn bs l k y.sep)) &&
  ((!y.lets||Lm bs l k)&&(List.range k).all fun i=>match nth l i with
   |some x=>(!meet x y||ahead bs i k)&&(!(x.uf&&y.uf)||(ahead bs i k||(BI ops l i&&BI ops l k)))
   |none=>false)
 |_,_=>false
def A8(ops:Array Oper)(l:List cX):Option (List cX) :=
 if GS ops (qT ops.toList) (kE (qT ops.toList) l 0 l) then some (kE (qT ops.toList) l 0 l) else none
def QW(A:zi)(y:Code)(c:cD):cD:=match A.own.find? (fun m=>decide (m / 1000=14000000+j7 y)) with
 |some m => .sZ (m % 1000) c
 |none=>c
def IC(A:zi)(c:Code)(l:List Nat)(x:cD):cD:=if A.own.contains (11000000+j7 c) then .mw l x else .loop l x
def comp(P:Program)(A:zi):Code->Option cD
 | .skip=>some .skip
 | .region id ops draw=>if draw then
   (sU P { A with own:=A.own.filter (1000000 <= ·) } ops [] ops.toList).bind fun l0=>(A8 ops l0).bind fun l=>some (.region l true (find A.lv id))
  else (sU P A ops [] ops.toList).bind fun l=>some (.region l false (find A.lv id))
 | .seq a b=>(comp P A a).bind fun x=>(comp P A b).bind fun y=>some (.seq x (QW A b y))
 | .cond c a b=>(ew c).bind fun c=>(comp P A a).bind fun x=>(comp P A b).bind fun y=>some (.cond c x y)
 | .block id c=>(comp P A c).bind fun x=>some (.block id x)
 | .loop c=>(comp P A c).bind fun x=>some (IC A c (find A.lp (j7 c)) x)
 | .exit id=>some (.exit id)
 | .ret=>some .ret
 |_=>none
def HB(P:Program):List ResultVar->Option (List sm)
 | []=>some []
 | .tmp t::r=>(HB P r).bind fun l=>some (.tmp t::l)
 | .cell a t::r=>(B1 P t).bind fun g=>(qg P t).bind fun n=>(HB P r).bind fun l=>some ((if g then .fI a n else .P3 a)::l)
def pE(P:Program)(A:zi)(fn:Func):Option eX :=
 match fn.body with
 |none=>none
 |some c=>if fn.name != "runtime.NumGoroutine" /\ A.n=fn.ntmps/\fn.params.size+fn.nfree<=fn.ntmps then
   (comp P A c).bind fun b=>(HB P fn.results.toList).bind fun r=>some { nparams:=fn.params.size+fn.nfree,results:=r,body:=b }
  else none
end
section
open Go
def aiZ(x:Operand)(s:Nat):Nat:=match x with
 | .tmp t=>s ||| (1 <<< t)
 |_=>s
def opB(ops:Array Oper)(o:Oper)(s:Nat):Nat :=
 let s:=match o.dst,o.guard with
  |some d,none=>if s.testBit d then s-(1 <<< d) else s
  |_,_=>s
 let s:=o.op.operands.toList.foldl (fun s x=>aiZ x s) s
 match o.guard with
 |some (k,_)=>match (ops[k]?).bind (·.dst) with
  |some t=>s ||| (1 <<< t)
  |none=>s
 |none=>s
def ane(ops:Array Oper)(out:Nat):Nat :=
 let l:=ops.toList.foldr (opB ops) out
 let g:=ops.toList.foldl (fun g o=>match o.dst,o.guard with
  |some d,some _=>g ||| (1 <<< d)
  |_,_=>g) 0
 let d:=g ^^^ (g &&& out)
 l ^^^ (l &&& d)
def Iz:List (Nat×Nat)->Nat->Nat
 | [],_=>0
 |(i,x)::r,k=>if i=k then x else Iz r k
def zO(ret:Nat):Code->List (Nat×Nat)->Nat->Nat×List (Nat×Nat)×List (Nat×Nat)
 | .skip,_,out=>(out,[],[])
 | .region id ops _,_,out=>(ane ops out,[(id,out)],[])
 | .seq a b,ex,out =>
  let y:=zO ret b ex out
  let x:=zO ret a ex y.1
  (x.1,x.2.1++y.2.1,x.2.2++y.2.2)
 | .cond c a b,ex,out =>
  let x:=zO ret a ex out
  let y:=zO ret b ex out
  (aiZ c (x.1 ||| y.1),x.2.1++y.2.1,x.2.2++y.2.2)
 | .block id c,ex,out=>zO ret c ((id,out)::ex) out
 | .loop c,ex,_ =>
  let h1:=(zO ret c ex 0).1
  let h2:=h1 ||| (zO ret c ex h1).1
  let z:=zO ret c ex h2
  let h3:=h2 ||| z.1
  (h3,z.2.1,(j7 c,h3)::z.2.2)
 | .exit id,ex,_=>(Iz ex id,[],[])
 | .ret,_,_=>(ret,[],[])
 |_,_,out=>(out,[],[])
def ago(n s:Nat):List Nat:=(List.range n).filter s.testBit
def Ei(own:List Nat)(fn:Func):zi:=match fn.body with
 |none=>{ n:=0,lv:=[] }
 |some c =>
  let r:=fn.results.toList.foldl (fun s x=>match x with
   | .tmp t=>s ||| (1 <<< t)
   | .cell t _=>s ||| (1 <<< t)) 0
  let z:=zO r c [] r
  let f:=fun(p:Nat×Nat)=>(p.1,ago fn.ntmps p.2)
  { n:=fn.ntmps,own:=own,lv:=z.2.1.map f,lp:=z.2.2.map f }
def cD.size:cD->Nat
 | .seq a b=>a.size+b.size+1
 | .cond _ a b=>a.size+b.size+1
 | .block _ a=>a.size+1
 | .loop _ a=>a.size+1
 | .mw _ a=>a.size+1
 | .sZ _ a=>a.size+1
 | .region .. => 1
 | .skip=>1
 | .exit _=>1
 | .ret=>1
def cD.sL:cD->List cD
 | .seq a b => .seq a b::(a.sL++b.sL)
 | .cond c a b => .cond c a b::(a.sL++b.sL)
 | .block i a => .block i a::a.sL
 | .loop l a => .loop l a::a.sL
 | .mw l a => .mw l a::a.sL
 | .sZ l a => .sZ l a::a.sL
 |c=>[c]
def sub(c:cD)(i:Nat):cD:=(c.sL[i]?).getD .skip
def ref(r:cD)(i:Nat):cD->cD
 | .skip => .skip
 | .exit n => .exit n
 | .ret => .ret
 | .region .. => sub r i
 | .seq .. => sub r i
 | .cond .. => sub r i
 | .block .. => sub r i
 | .loop .. => sub r i
 | .mw .. => sub r i
 | .sZ .. => sub r i
def zX(r:cD)(i:Nat):cD->cD
 | .region a b c => .region a b c
 | .skip => .skip
 | .exit n => .exit n
 | .ret => .ret
 | .seq .. => sub r i
 | .cond .. => sub r i
 | .block .. => sub r i
 | .loop .. => sub r i
 | .mw .. => sub r i
 | .sZ .. => sub r i
abbrev Hd(q b:cD):Prop:=∀(C:eO)(fn:List sm)(bZ:Nat)(k:List K)(bq:Env)(M:aO),fP C fn bZ k q bq M=fP C fn bZ k b bq M
def B3(e:Prop):cD->Prop
 | .region .. => True
 | .skip | .exit _ | .ret=>True
 | .seq .. => e
 | .cond .. => e
 | .block .. => e
 | .loop .. => e
 | .mw .. => e
 | .sZ .. => e
def eqs(r:cD):Nat->cD->Prop
 |i,.seq a b=>Hd (sub r i) (.seq (zX r (i+1) a) (ref r (i+1+a.size) b))/\(B3 (eqs r (i+1) a) a/\eqs r (i+1+a.size) b)
 |i,.cond c a b=>Hd (sub r i) (.cond c (ref r (i+1) a) (ref r (i+1+a.size) b))/\(eqs r (i+1) a/\eqs r (i+1+a.size) b)
 |i,.block n a=>Hd (sub r i) (.block n (ref r (i+1) a))/\eqs r (i+1) a
 |i,.loop n a=>Hd (sub r i) (.loop n (ref r (i+1) a))/\eqs r (i+1) a
 |i,.mw n a=>Hd (sub r i) (.mw n (ref r (i+1) a))/\eqs r (i+1) a
 |i,.sZ n a=>Hd (sub r i) (.sZ n (ref r (i+1) a))/\eqs r (i+1) a
 |i,.region a b c=>Hd (sub r i) (.region a b c)
 |_,.skip=>True
 |_,.exit _=>True
 |_,.ret=>True
def pO:∀c:cD,c.sL.length=c.size
 | .seq a b=>by simp[cD.sL,cD.size,pO a,pO b]
 | .cond _ a b=>by simp[cD.sL,cD.size,pO a,pO b]
 | .block _ a=>by simp[cD.sL,cD.size,pO a]
 | .loop _ a=>by simp[cD.sL,cD.size,pO a]
 | .mw _ a=>by simp[cD.sL,cD.size,pO a]
 | .sZ _ a=>by simp[cD.sL,cD.size,pO a]
 | .region .. | .skip | .exit _ | .ret=>by simp[cD.sL,cD.size]
def ad4(c:cD):c.sL[0]?=some c:=by cases c<;>simp[cD.sL]
def At(r:cD)(i:Nat)(c:cD):Prop:=∀j,j<c.size->r.sL[i+j]?=c.sL[j]?
def size_pos(c:cD):0<c.size:=by cases c<;>simp[cD.size]
def At.sub{r c:cD}{i:Nat}(h:At r i c):sub r i=c:=by
 have:=h 0 (size_pos c);rw[dq,ad4] at this;simp[Abs.sub,this]
def At.ref{r c:cD}{i:Nat}(h:At r i c):ref r i c=c:=by
 cases c<;>first|rfl|exact h.sub
def At.zX{r c:cD}{i:Nat}(h:At r i c):zX r i c=c:=by
 cases c<;>first|rfl|exact h.sub
def VQ{e:Prop}{c:cD}(h:e):B3 e c:=by
 cases c<;>first|trivial|exact h
def At.two{r a b x:cD}{i:Nat}(h:At r i x)(hx:x.sL=x::(a.sL++b.sL))(hs:x.size=a.size+b.size+1):At r (i+1) a/\At r (i+1+a.size) b:=by
 refine⟨fun j hj=>?_,fun j hj=>?_⟩
 ·have:=h (j+1) aM;rw[hx,dX,bh (by rw[pO]; exact hj)] at this
  rw[<-this]; congr 1; omega
 ·have:=h (a.size+j+1) aM;rw[hx,dX,bA (by rw[pO]; omega),pO] at this
  rw[show a.size+j-a.size=j by omega] at this
  rw[<-this]; congr 1; omega
def At.one{r a x:cD}{i:Nat}(h:At r i x)(hx:x.sL=x::a.sL)(hs:x.size=a.size+1):At r (i+1) a:=by
 intro j hj;have:=h (j+1) aM;rw[hx,dX] at this;rw[<-this]; congr 1; omega
def C9{q b:cD}(h:q=b):Hd q b:=ij h
def vY(r:cD):∀(c:cD)(i:Nat),At r i c->eqs r i c
 | .seq a b,i,h=>by
  obtain⟨h1,h2⟩:=h.two (a:=a) (b:=b) rfl rfl;exact⟨C9 (by rw[h.sub,h1.zX,h2.ref]),VQ (vY r a _ h1),vY r b _ h2⟩
 | .cond c a b,i,h=>by
  obtain⟨h1,h2⟩:=h.two (a:=a) (b:=b) rfl rfl;exact⟨C9 (by rw[h.sub,h1.ref,h2.ref]),vY r a _ h1,vY r b _ h2⟩
 | .block n a,i,h=>by
  have h1:=h.one (a:=a) rfl rfl;exact⟨C9 (by rw[h.sub,h1.ref]),vY r a _ h1⟩
 | .loop n a,i,h=>by
  have h1:=h.one (a:=a) rfl rfl;exact⟨C9 (by rw[h.sub,h1.ref]),vY r a _ h1⟩
 | .mw n a,i,h=>by
  have h1:=h.one (a:=a) rfl rfl;exact⟨C9 (by rw[h.sub,h1.ref]),vY r a _ h1⟩
 | .sZ n a,i,h=>by
  have h1:=h.one (a:=a) rfl rfl;exact⟨C9 (by rw[h.sub,h1.ref]),vY r a _ h1⟩
 | .region ..,_,h=>C9 h.sub
 | .skip,_,_=>trivial
 | .exit _,_,_=>trivial
 | .ret,_,_=>trivial
def aeX(r:cD):At r 0 r:=fun j _=>by rw[aN]
def pb[jw](P:Program)(A:zi):Code->Option cD
 | .skip=>some .skip
 | .region id ops draw=>if draw then
   (sU P { A with own:=A.own.filter (1000000 <= ·) } ops [] ops.toList).bind fun l=>some (.region (kE (qT ops.toList) l 0 l) true (find A.lv id))
  else (sU P A ops [] ops.toList).bind fun l=>some (.region l false (find A.lv id))
 | .seq a b=>(pb P A a).bind fun x=>(pb P A b).bind fun y=>some (.seq x (QW A b y))
 | .cond c a b=>(ew c).bind fun c=>(pb P A a).bind fun x=>(pb P A b).bind fun y=>some (.cond c x y)
 | .block id c=>(pb P A c).bind fun x=>some (.block id x)
 | .loop c=>(pb P A c).bind fun x=>some (IC A c (find A.lp (j7 c)) x)
 | .exit id=>some (.exit id)
 | .ret=>some .ret
 |_=>none
def P7[jw](P:Program)(A:zi)(fn:Func):Option cD:=match fn.body with
 |some c=>pb P A c
 |none=>none
abbrev Cv[jw](P:Program)(A:zi)(f:Func):={ g:cD // P7 P A f=some g }
def stg[jw]{P:Program}{A A':zi}{f:Func}{c:Code}{g:cD}(h1:f.body=some c)(h2:A=A')(h3:pb P A' c=some g):P7 P A f=some g:=by
 subst h2; unfold P7; rw[h1]; exact h3
def sgs[jw]{P:Program}{A:zi}{a b:Code}{x y z:cD}(h:pb P A a=some x)(k:pb P A b=some y)(l:QW A b y=z):pb P A (.seq a b)=some (.seq x z):=by
 subst l; rw[pb,h,k]; rfl
def sgb[jw]{P:Program}{A:zi}{i:Nat}{a:Code}{x:cD}(h:pb P A a=some x):pb P A (.block i a)=some (.block i x):=by rw[pb,h]; rfl
def sgl[jw]{P:Program}{A:zi}{a:Code}{x z:cD}(h:pb P A a=some x)(k:IC A a (find A.lp (j7 a)) x=z):pb P A (.loop a)=some z:=by rw[pb,h,<-k]; rfl
def sgc[jw]{P:Program}{A:zi}{a b:Code}{c:Operand}{d:_}{x y:cD}(hc:ew c=some d)(h:pb P A a=some x)(k:pb P A b=some y):pb P A (.cond c a b)=some (.cond d x y):=by rw[pb,hc,h,k]; rfl
def sgr[jw]{P:Program}{A:zi}{id:Nat}{ops:Array Oper}{l r:List cX}{bs v:List Nat}(h1:sU P { A with own:=A.own.filter (1000000 <= ·) } ops [] ops.toList=some l)(h2:qT ops.toList=bs)(h3:kE bs l 0 l=r)(h4:find A.lv id=v):pb P A (.region id ops true)=some (.region r true v):=by
 subst h2 h3 h4; rw[pb,av rfl,h1]; rfl
def sgk{bs:List Nat}{l r r':List cX}{k:Nat}{x x':cX}(h:kE bs l k [x]=[x'])(g:kE bs l (k+1) r=r'):kE bs l k (x::r)=x'::r':=by
 simp only[kE] at h ⊢; rw[g]; injection h with h; rw[h]
def sgn{bs:List Nat}{l:List cX}{k:Nat}:kE bs l k []=[]:=rfl
def okc{o:Option eX}{n:Nat}{r:List sm}{c:cD}(h:o=some (eX.mk n r c)):o=some (eX.mk n r (sub c 0)):=by
 rw[h,(aeX c).sub]
def zj:=u8w @eqs.eq_1 @eqs.eq_2 @eqs.eq_3 @eqs.eq_4 @eqs.eq_5 @eqs.eq_6 @eqs.eq_7 @eqs.eq_8 (u8w @eqs.eq_9 @eqs.eq_10 @ref.eq_1 @ref.eq_2 @ref.eq_3 @ref.eq_4 @ref.eq_5 @ref.eq_6 (u8w @ref.eq_7 @ref.eq_8 @ref.eq_9 @ref.eq_10 @zX.eq_1 @zX.eq_2 @zX.eq_3 @zX.eq_4 (u8w @zX.eq_5 @zX.eq_6 @zX.eq_7 @zX.eq_8 @zX.eq_9 @zX.eq_10 @B3.eq_1 @B3.eq_2 (u8w @B3.eq_3 @B3.eq_4 @B3.eq_5 @B3.eq_6 @B3.eq_7 @B3.eq_8 @B3.eq_9 @B3.eq_10 (u8w @cD.size.eq_1 @cD.size.eq_2 @cD.size.eq_3 @cD.size.eq_4 @cD.size.eq_5 @cD.size.eq_6 @cD.size.eq_7 @cD.size.eq_8 (cn @cD.size.eq_9 (cn @cD.size.eq_10 (cn @and_true @true_and))))))))
end
end Go.Abs
namespace Go.Proofs.YtcbopkblmebjiaaGreatDoor
open Go Go.Abs
def HO:Value := .iface 248 (.agg #[.pointer (some ⟨2,137,none⟩)])
instance:jw where
 g:=fun b=>match b with
  |0=>some [HO]
  |_=>none
 u8:=5
def ahq:Func:={ name := "",origin := "",params := #[],resultTypes := #[],nfree:=0,ntmps:=0,results := #[],body:=some .skip,norace:=false,tmpNames := #[] }
noncomputable def aiK:Program:={ toTables:={ goVersion := "",platform := "",initOrder := "",godebug := "",types:=Tryz.types,rt:=Tryz.progTables.rt,cutTypes := #[],globals := #[],inits := #[],main:=0 },funcs:=⟨List.replicate 900 ahq⟩ }
abbrev Ko(own:List Nat)(f:Func):=Cv aiK (Ei own f) f
def fb{A:List Nat}{f:Func}(h:Ko A f:=by apply Subtype.mk; cbv):=h
abbrev wT(own:List Nat)(f:Func)(c:eX):Prop:=pE Tryz.prog (Ei own f) f=some c
section
open Go.ChangeShapes Go.WideShapes Go.RowKit
def am9:ownKnob Tryz.prog.godebug=none:=gd
abbrev Tl:List (String×DataW Unit):=[("errors.errorType",Rows.laid_errors_errorType)]
def UZ:J:=⟨fun _=>none,fun _ _=>False⟩
def anf(W:World):Rel UZ [] W where
 inj:=fun _ _ _ h=>by cases h
 lt:=fun _ _ h=>by cases h
 fix:=fun _ _ h=>by cases h
 tick:=fun _ _ _ _ h=>by cases h
 arr:=fun _ _ _ _ h=>by cases h
 u9:=fun _ _ h=>by cases h
 Ah:=fun _ _ h=>h.elim
def LO{w:World}{b off:Nat}{v:Value}(h:w.cell? ⟨b,off,none⟩=some v):b<w.heap.size:=by
 rcases bK b w.heap.size with hb|hb
 ·exact hb
 ·simp[World.cell?,ik hb] at h
def adJ:((List.range Tryz.prog.types.size).filter fun t=>Tryz.prog.rowNamed t [101,114,114,111,114])=[137]:=gd
def rtK{a:Option Nat}{u n:Nat}(e:a=some u)(h:a=some n):n=u:=ky (h.symm.trans e)
def ahC{W:World}(hL:laidMetH Tryz.prog Tl W)(hsh:W.ShapedOpen Tryz.prog):sS UZ [] W:=by
 have h':laidMet Tryz.prog [] W/\handlesMet Tryz.prog Tl W:=hL;obtain⟨name,u,ty,e1,e2,e3,e4,e5⟩:=h'.2 _ (bU.2 rfl);have en:name=[101,114,114,111,114]:=(ky e1).symm;subst en;obtain rfl:=rtK e2 (n:=248) gd;have hm:ty∈(List.range Tryz.prog.types.size).filter fun t=>Tryz.prog.rowNamed t [101,114,114,111,114]:=fj.2 ⟨gH.2 e3,e4⟩
 rw[adJ] at hm;obtain rfl:=bU.1 hm;rw[show typeHandle Tryz.prog 137 = .pointer (some ⟨2,137,none⟩) by kernel_rfl] at e5
 have hc:W.cell? ⟨0,0,none⟩=some HO:=by simpa[HO] using World.var?_cell (show Tryz.prog.globalNamed "errors.errorType" = some 0 by kernel_rfl) e5 0
 obtain⟨⟨zero,t'⟩,hz,he⟩:=aW.1 (show(((begin Tryz.prog (fun _ _=>0) default).world.heap[0]?).bind Obj.row?).map (fun x=>x.1.size)=some 1 by kernel_rfl)
 obtain⟨cs,h1,h2,_⟩:=hsh.1 0 zero t' (bN gd) hz;refine⟨fun b vs k v hb hk=>?_,fun b vs hb=>?_,fun b p hb=>by cases hb⟩
 ·match b,hb with
  |0,hb =>
   cases hb
   match k,hk with
   |0,hk=>cases hk; exact⟨⟨LO hc,fun id hid=>by simp at hid,fun h=>h⟩,hc⟩
 ·match b,hb with
  |0,hb=>cases hb; exact⟨cs,_,_,h1,h2.trans he⟩
noncomputable def xU(os:Os):World :=
 let w0:=World.holding Tryz.prog os ⟨#[],#[],[]⟩
 { w0 with heap:=w0.heap.modify 0 fun
   | .cells _ t frozen => .cells #[HO] t frozen
   |o=>o }
def Tm(os:Os)(args:Array Value):laidMetH Tryz.prog Tl ((xU os).forCall (fun _ _=>0) ⟨#[],args,[]⟩).memory :=
 laidMetH_of_parts (laidMet_nil _ _) gd
end
end Go.Proofs.YtcbopkblmebjiaaGreatDoor
