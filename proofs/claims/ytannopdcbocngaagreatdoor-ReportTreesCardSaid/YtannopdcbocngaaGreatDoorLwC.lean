import Derived.WalkKit
import Derived.KernelRfl
import Derived.Test.YtannopdcbocngaaGreatDoorProg
import Derived.Shelf.RegionOpenPlain
import Derived.Deep.LoopGhost
import Derived.Deep.RegionLaw
import Derived.Lib.Walk
import Derived.Lib.SliceRun
import Derived.Laws.IdiomCopy
import Derived.Lib.AppendZeros
import Derived.Lib.AppendZerosOnto
import Derived.Laws.NewBlocks
import Derived.Laws.Externs
import Derived.Deep.AppendSrc
import Derived.Below
import Derived.Lib.Strings
import Derived.Lib.Slices
import Derived.Lib.Bytealg
import Derived.Lib.Builder
import Derived.Lib.AppendStr
import Derived.Lib.UnsafeStr
import Derived.Lib.ItoaLen
import Derived.Test.YtannopdcbocngaaGreatDoorLwB
set_option linter.unusedSimpArgs false
set_option linter.unusedVariables false
set_option linter.unusedSectionVars false
namespace Go.Abs
open Go
theorem TG0:(∀(B:Nat) (M:AMem) (b:Bool),AVal.back0 B M (.bool b)=(.bool b)) ∧
  (∀(B:Nat) (M:AMem) (b:Bool),AVal.back1 B M (.bool b)=(.bool b)) ∧
  (∀(B:Nat) (M:AMem) (b:Bool),AVal.back2 B M (.bool b)=(.bool b)) ∧
  (∀(B:Nat) (M:AMem) (b:Bool),AVal.backV B M (.bool b)=(.bool b)) ∧
  (∀(B:Nat) (M:AMem) (b:Bool),AVal.backR1 B M (.bool b)=(.bool b)) ∧
  (∀(B:Nat) (M:AMem) (b:Bool),AVal.backR2 B M (.bool b)=(.bool b)) ∧
  (∀(B:Nat) (M:AMem) (b:Bool),AVal.backR B M (.bool b)=(.bool b)) ∧
  (∀(b:Bool),AVal.shut (.bool b)=(.bool b)) ∧
  (∀(b:Bool),AVal.shutD (.bool b)=(.bool b)) ∧
  (∀(b:Bool),AVal.cells? (.bool b)=some [(.bool b)]) ∧
  (∀(b:Bool),AVal.isCell (.bool b)=true) ∧
  (∀(b:Bool),AVal.plainCell (.bool b)=true) ∧
  (∀(b:Bool),AVal.plain (.bool b)=true) ∧
  (∀(b:Bool),AVal.cells (.bool b)=[(.bool b)]) ∧
  (∀(b:Bool),AVal.ids0 (.bool b)=[]) ∧
  (∀(b:Bool),AVal.ids1 (.bool b)=[]) ∧
  (∀(b:Bool),AVal.ids (.bool b)=[]) ∧
  (∀(M:AMem) (b:Bool),AVal.frz0 M (.bool b)=(.bool b)) ∧
  (∀(M:AMem) (b:Bool),AVal.frz M (.bool b)=(.bool b)) ∧
  (∀(B:Nat) (M:AMem) (k:IntKind) (n:Int),AVal.back0 B M (.int k n)=(.int k n)) ∧
  (∀(B:Nat) (M:AMem) (k:IntKind) (n:Int),AVal.back1 B M (.int k n)=(.int k n)) ∧
  (∀(B:Nat) (M:AMem) (k:IntKind) (n:Int),AVal.back2 B M (.int k n)=(.int k n)) ∧
  (∀(B:Nat) (M:AMem) (k:IntKind) (n:Int),AVal.backV B M (.int k n)=(.int k n)) ∧
  (∀(B:Nat) (M:AMem) (k:IntKind) (n:Int),AVal.backR1 B M (.int k n)=(.int k n)) ∧
  (∀(B:Nat) (M:AMem) (k:IntKind) (n:Int),AVal.backR2 B M (.int k n)=(.int k n)) ∧
  (∀(B:Nat) (M:AMem) (k:IntKind) (n:Int),AVal.backR B M (.int k n)=(.int k n)) ∧
  (∀(k:IntKind) (n:Int),AVal.shut (.int k n)=(.int k n)) ∧
  (∀(k:IntKind) (n:Int),AVal.shutD (.int k n)=(.int k n)) ∧
  (∀(k:IntKind) (n:Int),AVal.cells? (.int k n)=some [(.int k n)]) ∧
  (∀(k:IntKind) (n:Int),AVal.isCell (.int k n)=true) ∧
  (∀(k:IntKind) (n:Int),AVal.plainCell (.int k n)=true) ∧
  (∀(k:IntKind) (n:Int),AVal.plain (.int k n)=true) ∧
  (∀(k:IntKind) (n:Int),AVal.cells (.int k n)=[(.int k n)]) ∧
  (∀(k:IntKind) (n:Int),AVal.ids0 (.int k n)=[]) ∧
  (∀(k:IntKind) (n:Int),AVal.ids1 (.int k n)=[]) ∧
  (∀(k:IntKind) (n:Int),AVal.ids (.int k n)=[]) ∧
  (∀(M:AMem) (k:IntKind) (n:Int),AVal.frz0 M (.int k n)=(.int k n)) ∧
  (∀(M:AMem) (k:IntKind) (n:Int),AVal.frz M (.int k n)=(.int k n)) ∧
  (∀(B:Nat) (M:AMem) (s:List UInt8),AVal.back0 B M (.str s)=(.str s)) ∧
  (∀(B:Nat) (M:AMem) (s:List UInt8),AVal.back1 B M (.str s)=(.str s)):=by
 refine ⟨?_,?_,?_,?_,?_,?_,?_,?_,?_,?_,?_,?_,?_,?_,?_,?_,?_,?_,?_,?_,?_,?_,?_,?_,?_,?_,?_,?_,?_,?_,?_,?_,?_,?_,?_,?_,?_,?_,?_,?_⟩<;>intros<;>rfl
theorem TG1:(∀(B:Nat) (M:AMem) (s:List UInt8),AVal.back2 B M (.str s)=(.str s)) ∧
  (∀(B:Nat) (M:AMem) (s:List UInt8),AVal.backV B M (.str s)=(.str s)) ∧
  (∀(B:Nat) (M:AMem) (s:List UInt8),AVal.backR1 B M (.str s)=(.str s)) ∧
  (∀(B:Nat) (M:AMem) (s:List UInt8),AVal.backR2 B M (.str s)=(.str s)) ∧
  (∀(B:Nat) (M:AMem) (s:List UInt8),AVal.backR B M (.str s)=(.str s)) ∧
  (∀(s:List UInt8),AVal.shut (.str s)=(.str s)) ∧
  (∀(s:List UInt8),AVal.shutD (.str s)=(.str s)) ∧
  (∀(s:List UInt8),AVal.cells? (.str s)=some [(.str s)]) ∧
  (∀(s:List UInt8),AVal.isCell (.str s)=true) ∧
  (∀(s:List UInt8),AVal.plainCell (.str s)=true) ∧
  (∀(s:List UInt8),AVal.plain (.str s)=true) ∧
  (∀(s:List UInt8),AVal.cells (.str s)=[(.str s)]) ∧
  (∀(s:List UInt8),AVal.ids0 (.str s)=[]) ∧
  (∀(s:List UInt8),AVal.ids1 (.str s)=[]) ∧
  (∀(s:List UInt8),AVal.ids (.str s)=[]) ∧
  (∀(M:AMem) (s:List UInt8),AVal.frz0 M (.str s)=(.str s)) ∧
  (∀(M:AMem) (s:List UInt8),AVal.frz M (.str s)=(.str s)) ∧
  (∀(B:Nat) (M:AMem) (id off:Nat),AVal.back0 B M (.ptr id off)=if id<B then (.ptr id off) else .any) ∧
  (∀(B:Nat) (M:AMem) (id off:Nat),AVal.back1 B M (.ptr id off)=if id<B then (.ptr id off) else .any) ∧
  (∀(B:Nat) (M:AMem) (id off:Nat),AVal.back2 B M (.ptr id off)=if id<B then (.ptr id off) else .any) ∧
  (∀(B:Nat) (M:AMem) (id off:Nat),AVal.backV B M (.ptr id off)=if id<B then (.ptr id off) else .any) ∧
  (∀(B:Nat) (M:AMem) (id off:Nat),AVal.backR1 B M (.ptr id off)=if id<B then (.ptr id off) else .any) ∧
  (∀(B:Nat) (M:AMem) (id off:Nat),AVal.backR2 B M (.ptr id off)=if id<B then (.ptr id off) else .any) ∧
  (∀(B:Nat) (M:AMem) (id off:Nat),AVal.backR B M (.ptr id off)=if id<B then (.ptr id off) else .any) ∧
  (∀(id off:Nat),AVal.shut (.ptr id off)=(.ptr id off)) ∧
  (∀(id off:Nat),AVal.shutD (.ptr id off)=(.ptr id off)) ∧
  (∀(id off:Nat),AVal.cells? (.ptr id off)=some [(.ptr id off)]) ∧
  (∀(id off:Nat),AVal.isCell (.ptr id off)=true) ∧
  (∀(id off:Nat),AVal.plainCell (.ptr id off)=false) ∧
  (∀(id off:Nat),AVal.plain (.ptr id off)=false) ∧
  (∀(id off:Nat),AVal.cells (.ptr id off)=[(.ptr id off)]) ∧
  (∀(id off:Nat),AVal.ids0 (.ptr id off)=[id]) ∧
  (∀(id off:Nat),AVal.ids1 (.ptr id off)=[id]) ∧
  (∀(id off:Nat),AVal.ids (.ptr id off)=[id]) ∧
  (∀(M:AMem) (id off:Nat),AVal.frz0 M (.ptr id off)=(.ptr id off)) ∧
  (∀(M:AMem) (id off:Nat),AVal.frz M (.ptr id off)=(.ptr id off)) ∧
  (∀(B:Nat) (M:AMem) (cs:List AVal),AVal.back0 B M (.rptr cs)=(.rptr cs)) ∧
  (∀(B:Nat) (M:AMem) (cs:List AVal),AVal.back1 B M (.rptr cs)=(.rptr cs)) ∧
  (∀(B:Nat) (M:AMem) (cs:List AVal),AVal.back2 B M (.rptr cs)=(.rptr cs)) ∧
  (∀(B:Nat) (M:AMem) (cs:List AVal),AVal.backV B M (.rptr cs)=(.rptr cs)):=by
 refine ⟨?_,?_,?_,?_,?_,?_,?_,?_,?_,?_,?_,?_,?_,?_,?_,?_,?_,?_,?_,?_,?_,?_,?_,?_,?_,?_,?_,?_,?_,?_,?_,?_,?_,?_,?_,?_,?_,?_,?_,?_⟩<;>intros<;>rfl
theorem TG2:(∀(B:Nat) (M:AMem) (cs:List AVal),AVal.backR1 B M (.rptr cs)=(.rptr cs)) ∧
  (∀(B:Nat) (M:AMem) (cs:List AVal),AVal.backR2 B M (.rptr cs)=(.rptr cs)) ∧
  (∀(B:Nat) (M:AMem) (cs:List AVal),AVal.backR B M (.rptr cs)=(.rptr cs)) ∧
  (∀(cs:List AVal),AVal.shut (.rptr cs)=(.rptr cs)) ∧
  (∀(cs:List AVal),AVal.shutD (.rptr cs)=(.rptr cs)) ∧
  (∀(cs:List AVal),AVal.cells? (.rptr cs)=some [(.rptr cs)]) ∧
  (∀(cs:List AVal),AVal.isCell (.rptr cs)=true) ∧
  (∀(cs:List AVal),AVal.plainCell (.rptr cs)=false) ∧
  (∀(cs:List AVal),AVal.plain (.rptr cs)=false) ∧
  (∀(cs:List AVal),AVal.cells (.rptr cs)=[(.rptr cs)]) ∧
  (∀(cs:List AVal),AVal.ids0 (.rptr cs)=[]) ∧
  (∀(cs:List AVal),AVal.ids1 (.rptr cs)=[]) ∧
  (∀(cs:List AVal),AVal.ids (.rptr cs)=[]) ∧
  (∀(M:AMem) (cs:List AVal),AVal.frz0 M (.rptr cs)=(.rptr cs)) ∧
  (∀(M:AMem) (cs:List AVal),AVal.frz M (.rptr cs)=(.rptr cs)) ∧
  (∀(B:Nat) (M:AMem) (f:Nat) (cs:List AVal),AVal.back0 B M (.func f cs) = .any) ∧
  (∀(B:Nat) (M:AMem) (f:Nat) (cs:List AVal),AVal.back1 B M (.func f cs) = .func f (cs.map (AVal.back0 B M))) ∧
  (∀(B:Nat) (M:AMem) (f:Nat) (cs:List AVal),AVal.back2 B M (.func f cs) = .func f (cs.map (AVal.back0 B M))) ∧
  (∀(B:Nat) (M:AMem) (f:Nat) (cs:List AVal),AVal.backV B M (.func f cs) = .func f (cs.map (AVal.back0 B M))) ∧
  (∀(B:Nat) (M:AMem) (f:Nat) (cs:List AVal),AVal.backR1 B M (.func f cs) = .func f (cs.map (AVal.back0 B M))) ∧
  (∀(B:Nat) (M:AMem) (f:Nat) (cs:List AVal),AVal.backR2 B M (.func f cs) = .func f (cs.map (AVal.back0 B M))) ∧
  (∀(B:Nat) (M:AMem) (f:Nat) (cs:List AVal),AVal.backR B M (.func f cs) = .func f (cs.map (AVal.back0 B M))) ∧
  (∀(f:Nat) (cs:List AVal),AVal.shut (.func f cs)=(.func f cs)) ∧
  (∀(f:Nat) (cs:List AVal),AVal.shutD (.func f cs)=(.func f cs)) ∧
  (∀(f:Nat) (cs:List AVal),AVal.cells? (.func f cs)=some [(.func f cs)]) ∧
  (∀(f:Nat) (cs:List AVal),AVal.isCell (.func f cs)=true) ∧
  (∀(f:Nat) (cs:List AVal),AVal.plainCell (.func f cs)=false) ∧
  (∀(f:Nat) (cs:List AVal),AVal.plain (.func f cs)=false) ∧
  (∀(f:Nat) (cs:List AVal),AVal.cells (.func f cs)=[(.func f cs)]) ∧
  (∀(f:Nat) (cs:List AVal),AVal.ids0 (.func f cs)=[]) ∧
  (∀(f:Nat) (cs:List AVal),AVal.ids1 (.func f cs)=cs.flatMap AVal.ids0) ∧
  (∀(f:Nat) (cs:List AVal),AVal.ids (.func f cs)=cs.flatMap AVal.ids0) ∧
  (∀(M:AMem) (f:Nat) (cs:List AVal),AVal.frz0 M (.func f cs)=(.func f cs)) ∧
  (∀(M:AMem) (f:Nat) (cs:List AVal),AVal.frz M (.func f cs)=(.func f cs)) ∧
  (∀(B:Nat) (M:AMem) (id:Nat),AVal.back0 B M (.mref id)=if id<B then (.mref id) else .any) ∧
  (∀(B:Nat) (M:AMem) (id:Nat),AVal.back1 B M (.mref id)=if id<B then (.mref id) else .any) ∧
  (∀(B:Nat) (M:AMem) (id:Nat),AVal.back2 B M (.mref id)=if id<B then (.mref id) else .any) ∧
  (∀(B:Nat) (M:AMem) (id:Nat),AVal.backV B M (.mref id)=if id<B then (.mref id) else .any) ∧
  (∀(B:Nat) (M:AMem) (id:Nat),AVal.backR1 B M (.mref id)=if id<B then .mref id else match M[id]? with|some (.map ks vs)=>if vs.all AVal.plain&&ks.all AVal.plainCell then .fmap ks vs else .any|_ => .any) ∧
  (∀(B:Nat) (M:AMem) (id:Nat),AVal.backR2 B M (.mref id)=if id<B then .mref id else match M[id]? with|some (.map ks vs)=>if vs.all AVal.plain&&ks.all AVal.plainCell then .fmap ks vs else .any|_ => .any):=by
 refine ⟨?_,?_,?_,?_,?_,?_,?_,?_,?_,?_,?_,?_,?_,?_,?_,?_,?_,?_,?_,?_,?_,?_,?_,?_,?_,?_,?_,?_,?_,?_,?_,?_,?_,?_,?_,?_,?_,?_,?_,?_⟩<;>intros<;>rfl
theorem TG3:(∀(B:Nat) (M:AMem) (id:Nat),AVal.backR B M (.mref id)=if id<B then .mref id else match M[id]? with|some (.map ks vs)=>if vs.all AVal.plain&&ks.all AVal.plainCell then .fmap ks vs else .any|_ => .any) ∧
  (∀(id:Nat),AVal.shut (.mref id)=(.mref id)) ∧
  (∀(id:Nat),AVal.shutD (.mref id)=(.mref id)) ∧
  (∀(id:Nat),AVal.cells? (.mref id)=some [(.mref id)]) ∧
  (∀(id:Nat),AVal.isCell (.mref id)=true) ∧
  (∀(id:Nat),AVal.plainCell (.mref id)=false) ∧
  (∀(id:Nat),AVal.plain (.mref id)=false) ∧
  (∀(id:Nat),AVal.cells (.mref id)=[(.mref id)]) ∧
  (∀(id:Nat),AVal.ids0 (.mref id)=[id]) ∧
  (∀(id:Nat),AVal.ids1 (.mref id)=[id]) ∧
  (∀(id:Nat),AVal.ids (.mref id)=[id]) ∧
  (∀(M:AMem) (id:Nat),AVal.frz0 M (.mref id)=(.mref id)) ∧
  (∀(M:AMem) (id:Nat),AVal.frz M (.mref id)=(.mref id)) ∧
  (∀(B:Nat) (M:AMem) (id:Nat),AVal.back0 B M (.iref id)=if id<B then (.iref id) else .any) ∧
  (∀(B:Nat) (M:AMem) (id:Nat),AVal.back1 B M (.iref id)=if id<B then (.iref id) else .any) ∧
  (∀(B:Nat) (M:AMem) (id:Nat),AVal.back2 B M (.iref id)=if id<B then (.iref id) else .any) ∧
  (∀(B:Nat) (M:AMem) (id:Nat),AVal.backV B M (.iref id)=if id<B then (.iref id) else .any) ∧
  (∀(B:Nat) (M:AMem) (id:Nat),AVal.backR1 B M (.iref id)=if id<B then (.iref id) else .any) ∧
  (∀(B:Nat) (M:AMem) (id:Nat),AVal.backR2 B M (.iref id)=if id<B then (.iref id) else .any) ∧
  (∀(B:Nat) (M:AMem) (id:Nat),AVal.backR B M (.iref id)=if id<B then (.iref id) else .any) ∧
  (∀(id:Nat),AVal.shut (.iref id)=(.iref id)) ∧
  (∀(id:Nat),AVal.shutD (.iref id)=(.iref id)) ∧
  (∀(id:Nat),AVal.cells? (.iref id)=some [(.iref id)]) ∧
  (∀(id:Nat),AVal.isCell (.iref id)=true) ∧
  (∀(id:Nat),AVal.plainCell (.iref id)=false) ∧
  (∀(id:Nat),AVal.plain (.iref id)=false) ∧
  (∀(id:Nat),AVal.cells (.iref id)=[(.iref id)]) ∧
  (∀(id:Nat),AVal.ids0 (.iref id)=[id]) ∧
  (∀(id:Nat),AVal.ids1 (.iref id)=[id]) ∧
  (∀(id:Nat),AVal.ids (.iref id)=[id]) ∧
  (∀(M:AMem) (id:Nat),AVal.frz0 M (.iref id)=(.iref id)) ∧
  (∀(M:AMem) (id:Nat),AVal.frz M (.iref id)=(.iref id)) ∧
  (∀(B:Nat) (M:AMem) (ks vs:List AVal),AVal.back0 B M (.fmap ks vs)=(.fmap ks vs)) ∧
  (∀(B:Nat) (M:AMem) (ks vs:List AVal),AVal.back1 B M (.fmap ks vs)=(.fmap ks vs)) ∧
  (∀(B:Nat) (M:AMem) (ks vs:List AVal),AVal.back2 B M (.fmap ks vs)=(.fmap ks vs)) ∧
  (∀(B:Nat) (M:AMem) (ks vs:List AVal),AVal.backV B M (.fmap ks vs)=(.fmap ks vs)) ∧
  (∀(B:Nat) (M:AMem) (ks vs:List AVal),AVal.backR1 B M (.fmap ks vs)=(.fmap ks vs)) ∧
  (∀(B:Nat) (M:AMem) (ks vs:List AVal),AVal.backR2 B M (.fmap ks vs)=(.fmap ks vs)) ∧
  (∀(B:Nat) (M:AMem) (ks vs:List AVal),AVal.backR B M (.fmap ks vs)=(.fmap ks vs)) ∧
  (∀(ks vs:List AVal),AVal.shut (.fmap ks vs)=(.fmap ks vs)):=by
 refine ⟨?_,?_,?_,?_,?_,?_,?_,?_,?_,?_,?_,?_,?_,?_,?_,?_,?_,?_,?_,?_,?_,?_,?_,?_,?_,?_,?_,?_,?_,?_,?_,?_,?_,?_,?_,?_,?_,?_,?_,?_⟩<;>intros<;>rfl
theorem TG4:(∀(ks vs:List AVal),AVal.shutD (.fmap ks vs)=(.fmap ks vs)) ∧
  (∀(ks vs:List AVal),AVal.cells? (.fmap ks vs)=some [(.fmap ks vs)]) ∧
  (∀(ks vs:List AVal),AVal.isCell (.fmap ks vs)=true) ∧
  (∀(ks vs:List AVal),AVal.plainCell (.fmap ks vs)=false) ∧
  (∀(ks vs:List AVal),AVal.plain (.fmap ks vs)=false) ∧
  (∀(ks vs:List AVal),AVal.cells (.fmap ks vs)=[(.fmap ks vs)]) ∧
  (∀(ks vs:List AVal),AVal.ids0 (.fmap ks vs)=[]) ∧
  (∀(ks vs:List AVal),AVal.ids1 (.fmap ks vs)=[]) ∧
  (∀(ks vs:List AVal),AVal.ids (.fmap ks vs)=[]) ∧
  (∀(M:AMem) (ks vs:List AVal),AVal.frz0 M (.fmap ks vs)=(.fmap ks vs)) ∧
  (∀(M:AMem) (ks vs:List AVal),AVal.frz M (.fmap ks vs)=(.fmap ks vs)) ∧
  (∀(B:Nat) (M:AMem) (id ver sz lo hi:Nat),AVal.back0 B M (.aref id ver sz lo hi)=if id<B then (.aref id ver sz lo hi) else match M[id]? with|some (.arr _ v xs)=>if v=ver then .slice .sh ((xs.take hi).drop lo) else .any|_ => .any) ∧
  (∀(B:Nat) (M:AMem) (id ver sz lo hi:Nat),AVal.back1 B M (.aref id ver sz lo hi)=if id<B then (.aref id ver sz lo hi) else match M[id]? with|some (.arr _ v xs)=>if v=ver then .slice .sh ((xs.take hi).drop lo) else .any|_ => .any) ∧
  (∀(B:Nat) (M:AMem) (id ver sz lo hi:Nat),AVal.back2 B M (.aref id ver sz lo hi)=if id<B then (.aref id ver sz lo hi) else match M[id]? with|some (.arr _ v xs)=>if v=ver then .slice .sh ((xs.take hi).drop lo) else .any|_ => .any) ∧
  (∀(B:Nat) (M:AMem) (id ver sz lo hi:Nat),AVal.backV B M (.aref id ver sz lo hi)=if id<B then (.aref id ver sz lo hi) else match M[id]? with|some (.arr _ v xs)=>if v=ver then .slice .sh ((xs.take hi).drop lo) else .any|_ => .any) ∧
  (∀(B:Nat) (M:AMem) (id ver sz lo hi:Nat),AVal.backR1 B M (.aref id ver sz lo hi)=if id<B then (.aref id ver sz lo hi) else match M[id]? with|some (.arr _ v xs)=>if v=ver then .slice .sh ((xs.take hi).drop lo) else .any|_ => .any) ∧
  (∀(B:Nat) (M:AMem) (id ver sz lo hi:Nat),AVal.backR2 B M (.aref id ver sz lo hi)=if id<B then (.aref id ver sz lo hi) else match M[id]? with|some (.arr _ v xs)=>if v=ver then .slice .sh ((xs.take hi).drop lo) else .any|_ => .any) ∧
  (∀(B:Nat) (M:AMem) (id ver sz lo hi:Nat),AVal.backR B M (.aref id ver sz lo hi)=if id<B then (.aref id ver sz lo hi) else match M[id]? with|some (.arr _ v xs)=>if v=ver then .slice .sh ((xs.take hi).drop lo) else .any|_ => .any) ∧
  (∀(id ver sz lo hi:Nat),AVal.shut (.aref id ver sz lo hi)=(.aref id ver sz lo hi)) ∧
  (∀(id ver sz lo hi:Nat),AVal.shutD (.aref id ver sz lo hi)=(.aref id ver sz lo hi)) ∧
  (∀(id ver sz lo hi:Nat),AVal.cells? (.aref id ver sz lo hi)=some [(.aref id ver sz lo hi)]) ∧
  (∀(id ver sz lo hi:Nat),AVal.isCell (.aref id ver sz lo hi)=true) ∧
  (∀(id ver sz lo hi:Nat),AVal.plainCell (.aref id ver sz lo hi)=false) ∧
  (∀(id ver sz lo hi:Nat),AVal.plain (.aref id ver sz lo hi)=false) ∧
  (∀(id ver sz lo hi:Nat),AVal.cells (.aref id ver sz lo hi)=[(.aref id ver sz lo hi)]) ∧
  (∀(id ver sz lo hi:Nat),AVal.ids0 (.aref id ver sz lo hi)=[id]) ∧
  (∀(id ver sz lo hi:Nat),AVal.ids1 (.aref id ver sz lo hi)=[id]) ∧
  (∀(id ver sz lo hi:Nat),AVal.ids (.aref id ver sz lo hi)=[id]) ∧
  (∀(B:Nat) (M:AMem) (id ver i off:Nat),AVal.back0 B M (.eptr id ver i off)=if id<B then (.eptr id ver i off) else .any) ∧
  (∀(B:Nat) (M:AMem) (id ver i off:Nat),AVal.back1 B M (.eptr id ver i off)=if id<B then (.eptr id ver i off) else .any) ∧
  (∀(B:Nat) (M:AMem) (id ver i off:Nat),AVal.back2 B M (.eptr id ver i off)=if id<B then (.eptr id ver i off) else .any) ∧
  (∀(B:Nat) (M:AMem) (id ver i off:Nat),AVal.backV B M (.eptr id ver i off)=if id<B then (.eptr id ver i off) else .any) ∧
  (∀(B:Nat) (M:AMem) (id ver i off:Nat),AVal.backR1 B M (.eptr id ver i off)=if id<B then (.eptr id ver i off) else .any) ∧
  (∀(B:Nat) (M:AMem) (id ver i off:Nat),AVal.backR2 B M (.eptr id ver i off)=if id<B then (.eptr id ver i off) else .any) ∧
  (∀(B:Nat) (M:AMem) (id ver i off:Nat),AVal.backR B M (.eptr id ver i off)=if id<B then (.eptr id ver i off) else .any) ∧
  (∀(id ver i off:Nat),AVal.shut (.eptr id ver i off)=(.eptr id ver i off)) ∧
  (∀(id ver i off:Nat),AVal.shutD (.eptr id ver i off)=(.eptr id ver i off)) ∧
  (∀(id ver i off:Nat),AVal.cells? (.eptr id ver i off)=some [(.eptr id ver i off)]) ∧
  (∀(id ver i off:Nat),AVal.isCell (.eptr id ver i off)=true) ∧
  (∀(id ver i off:Nat),AVal.plainCell (.eptr id ver i off)=false):=by
 refine ⟨?_,?_,?_,?_,?_,?_,?_,?_,?_,?_,?_,?_,?_,?_,?_,?_,?_,?_,?_,?_,?_,?_,?_,?_,?_,?_,?_,?_,?_,?_,?_,?_,?_,?_,?_,?_,?_,?_,?_,?_⟩<;>intros<;>rfl
theorem TG5:(∀(id ver i off:Nat),AVal.plain (.eptr id ver i off)=false) ∧
  (∀(id ver i off:Nat),AVal.cells (.eptr id ver i off)=[(.eptr id ver i off)]) ∧
  (∀(id ver i off:Nat),AVal.ids0 (.eptr id ver i off)=[id]) ∧
  (∀(id ver i off:Nat),AVal.ids1 (.eptr id ver i off)=[id]) ∧
  (∀(id ver i off:Nat),AVal.ids (.eptr id ver i off)=[id]) ∧
  (∀(M:AMem) (id ver i off:Nat),AVal.frz0 M (.eptr id ver i off)=(.eptr id ver i off)) ∧
  (∀(M:AMem) (id ver i off:Nat),AVal.frz M (.eptr id ver i off)=(.eptr id ver i off)) ∧
  (∀(B:Nat) (M:AMem) (f:Nat) (fs:List AVal),AVal.back0 B M (.mfn f fs)=(.mfn f fs)) ∧
  (∀(B:Nat) (M:AMem) (f:Nat) (fs:List AVal),AVal.back1 B M (.mfn f fs)=(.mfn f fs)) ∧
  (∀(B:Nat) (M:AMem) (f:Nat) (fs:List AVal),AVal.back2 B M (.mfn f fs)=(.mfn f fs)) ∧
  (∀(B:Nat) (M:AMem) (f:Nat) (fs:List AVal),AVal.backV B M (.mfn f fs)=(.mfn f fs)) ∧
  (∀(B:Nat) (M:AMem) (f:Nat) (fs:List AVal),AVal.backR1 B M (.mfn f fs)=(.mfn f fs)) ∧
  (∀(B:Nat) (M:AMem) (f:Nat) (fs:List AVal),AVal.backR2 B M (.mfn f fs)=(.mfn f fs)) ∧
  (∀(B:Nat) (M:AMem) (f:Nat) (fs:List AVal),AVal.backR B M (.mfn f fs)=(.mfn f fs)) ∧
  (∀(f:Nat) (fs:List AVal),AVal.shut (.mfn f fs)=(.mfn f fs)) ∧
  (∀(f:Nat) (fs:List AVal),AVal.shutD (.mfn f fs)=(.mfn f fs)) ∧
  (∀(f:Nat) (fs:List AVal),AVal.cells? (.mfn f fs)=some [(.mfn f fs)]) ∧
  (∀(f:Nat) (fs:List AVal),AVal.isCell (.mfn f fs)=true) ∧
  (∀(f:Nat) (fs:List AVal),AVal.plainCell (.mfn f fs)=false) ∧
  (∀(f:Nat) (fs:List AVal),AVal.plain (.mfn f fs)=false) ∧
  (∀(f:Nat) (fs:List AVal),AVal.cells (.mfn f fs)=[(.mfn f fs)]) ∧
  (∀(f:Nat) (fs:List AVal),AVal.ids0 (.mfn f fs)=[]) ∧
  (∀(f:Nat) (fs:List AVal),AVal.ids1 (.mfn f fs)=[]) ∧
  (∀(f:Nat) (fs:List AVal),AVal.ids (.mfn f fs)=[]) ∧
  (∀(M:AMem) (f:Nat) (fs:List AVal),AVal.frz0 M (.mfn f fs)=(.mfn f fs)) ∧
  (∀(M:AMem) (f:Nat) (fs:List AVal),AVal.frz M (.mfn f fs)=(.mfn f fs)) ∧
  (∀(B:Nat) (M:AMem) (id t:Nat),AVal.back0 B M (.bself id t)=if id<B then (.bself id t) else .any) ∧
  (∀(B:Nat) (M:AMem) (id t:Nat),AVal.back1 B M (.bself id t)=if id<B then (.bself id t) else .any) ∧
  (∀(B:Nat) (M:AMem) (id t:Nat),AVal.back2 B M (.bself id t)=if id<B then (.bself id t) else .any) ∧
  (∀(B:Nat) (M:AMem) (id t:Nat),AVal.backV B M (.bself id t)=if id<B then (.bself id t) else .any) ∧
  (∀(B:Nat) (M:AMem) (id t:Nat),AVal.backR1 B M (.bself id t)=if id<B then (.bself id t) else .any) ∧
  (∀(B:Nat) (M:AMem) (id t:Nat),AVal.backR2 B M (.bself id t)=if id<B then (.bself id t) else .any) ∧
  (∀(B:Nat) (M:AMem) (id t:Nat),AVal.backR B M (.bself id t)=if id<B then (.bself id t) else .any) ∧
  (∀(id t:Nat),AVal.shut (.bself id t)=(.bself id t)) ∧
  (∀(id t:Nat),AVal.shutD (.bself id t)=(.bself id t)) ∧
  (∀(id t:Nat),AVal.cells? (.bself id t)=some [(.bself id t)]) ∧
  (∀(id t:Nat),AVal.isCell (.bself id t)=true) ∧
  (∀(id t:Nat),AVal.plainCell (.bself id t)=false) ∧
  (∀(id t:Nat),AVal.plain (.bself id t)=false) ∧
  (∀(id t:Nat),AVal.cells (.bself id t)=[(.bself id t)]):=by
 refine ⟨?_,?_,?_,?_,?_,?_,?_,?_,?_,?_,?_,?_,?_,?_,?_,?_,?_,?_,?_,?_,?_,?_,?_,?_,?_,?_,?_,?_,?_,?_,?_,?_,?_,?_,?_,?_,?_,?_,?_,?_⟩<;>intros<;>rfl
theorem TG6:(∀(id t:Nat),AVal.ids0 (.bself id t)=[id]) ∧
  (∀(id t:Nat),AVal.ids1 (.bself id t)=[id]) ∧
  (∀(id t:Nat),AVal.ids (.bself id t)=[id]) ∧
  (∀(M:AMem) (id t:Nat),AVal.frz0 M (.bself id t)=(.bself id t)) ∧
  (∀(M:AMem) (id t:Nat),AVal.frz M (.bself id t)=(.bself id t)) ∧
  (∀(B:Nat) (M:AMem) (k t:Nat) (x:Bool) (l:List UInt8),AVal.back0 B M (.obuf k t x l)=if k<B then (.obuf k t x l) else .any) ∧
  (∀(B:Nat) (M:AMem) (k t:Nat) (x:Bool) (l:List UInt8),AVal.back1 B M (.obuf k t x l)=if k<B then (.obuf k t x l) else .any) ∧
  (∀(B:Nat) (M:AMem) (k t:Nat) (x:Bool) (l:List UInt8),AVal.back2 B M (.obuf k t x l)=if k<B then (.obuf k t x l) else .any) ∧
  (∀(B:Nat) (M:AMem) (k t:Nat) (x:Bool) (l:List UInt8),AVal.backV B M (.obuf k t x l)=if k<B then (.obuf k t x l) else .any) ∧
  (∀(B:Nat) (M:AMem) (k t:Nat) (x:Bool) (l:List UInt8),AVal.backR1 B M (.obuf k t x l)=if k<B then (.obuf k t x l) else .any) ∧
  (∀(B:Nat) (M:AMem) (k t:Nat) (x:Bool) (l:List UInt8),AVal.backR2 B M (.obuf k t x l)=if k<B then (.obuf k t x l) else .any) ∧
  (∀(B:Nat) (M:AMem) (k t:Nat) (x:Bool) (l:List UInt8),AVal.backR B M (.obuf k t x l)=if k<B then (.obuf k t x l) else .any) ∧
  (∀(k t:Nat) (x:Bool) (l:List UInt8),AVal.shut (.obuf k t x l)=(.obuf k t x l)) ∧
  (∀(k t:Nat) (x:Bool) (l:List UInt8),AVal.shutD (.obuf k t x l)=(.obuf k t x l)) ∧
  (∀(k t:Nat) (x:Bool) (l:List UInt8),AVal.cells? (.obuf k t x l)=some [(.obuf k t x l)]) ∧
  (∀(k t:Nat) (x:Bool) (l:List UInt8),AVal.isCell (.obuf k t x l)=true) ∧
  (∀(k t:Nat) (x:Bool) (l:List UInt8),AVal.plainCell (.obuf k t x l)=false) ∧
  (∀(k t:Nat) (x:Bool) (l:List UInt8),AVal.plain (.obuf k t x l)=false) ∧
  (∀(k t:Nat) (x:Bool) (l:List UInt8),AVal.cells (.obuf k t x l)=[(.obuf k t x l)]) ∧
  (∀(k t:Nat) (x:Bool) (l:List UInt8),AVal.ids0 (.obuf k t x l)=[k]) ∧
  (∀(k t:Nat) (x:Bool) (l:List UInt8),AVal.ids1 (.obuf k t x l)=[k]) ∧
  (∀(k t:Nat) (x:Bool) (l:List UInt8),AVal.ids (.obuf k t x l)=[k]) ∧
  (∀(M:AMem) (k t:Nat) (x:Bool) (l:List UInt8),AVal.frz0 M (.obuf k t x l)=(.obuf k t x l)) ∧
  (∀(M:AMem) (k t:Nat) (x:Bool) (l:List UInt8),AVal.frz M (.obuf k t x l)=(.obuf k t x l)) ∧
  (∀(B:Nat) (M:AMem) (v:Value),AVal.back0 B M (.raw v)=(.raw v)) ∧
  (∀(B:Nat) (M:AMem) (v:Value),AVal.back1 B M (.raw v)=(.raw v)) ∧
  (∀(B:Nat) (M:AMem) (v:Value),AVal.back2 B M (.raw v)=(.raw v)) ∧
  (∀(B:Nat) (M:AMem) (v:Value),AVal.backV B M (.raw v)=(.raw v)) ∧
  (∀(B:Nat) (M:AMem) (v:Value),AVal.backR1 B M (.raw v)=(.raw v)) ∧
  (∀(B:Nat) (M:AMem) (v:Value),AVal.backR2 B M (.raw v)=(.raw v)) ∧
  (∀(B:Nat) (M:AMem) (v:Value),AVal.backR B M (.raw v)=(.raw v)) ∧
  (∀(v:Value),AVal.shut (.raw v)=(.raw v)) ∧
  (∀(v:Value),AVal.shutD (.raw v)=(.raw v)) ∧
  (∀(v:Value),AVal.cells (.raw v)=[(.raw v)]) ∧
  (∀(v:Value),AVal.ids0 (.raw v)=[]) ∧
  (∀(v:Value),AVal.ids1 (.raw v)=[]) ∧
  (∀(v:Value),AVal.ids (.raw v)=[]) ∧
  (∀(M:AMem) (v:Value),AVal.frz0 M (.raw v)=(.raw v)) ∧
  (∀(M:AMem) (v:Value),AVal.frz M (.raw v)=(.raw v)) ∧
  (∀(B:Nat) (M:AMem) ,AVal.back0 B M .any = .any):=by
 refine ⟨?_,?_,?_,?_,?_,?_,?_,?_,?_,?_,?_,?_,?_,?_,?_,?_,?_,?_,?_,?_,?_,?_,?_,?_,?_,?_,?_,?_,?_,?_,?_,?_,?_,?_,?_,?_,?_,?_,?_,?_⟩<;>intros<;>rfl
theorem TG7:(∀(B:Nat) (M:AMem) ,AVal.back1 B M .any = .any) ∧
  (∀(B:Nat) (M:AMem) ,AVal.back2 B M .any = .any) ∧
  (∀(B:Nat) (M:AMem) ,AVal.backV B M .any = .any) ∧
  (∀(B:Nat) (M:AMem) ,AVal.backR1 B M .any = .any) ∧
  (∀(B:Nat) (M:AMem) ,AVal.backR2 B M .any = .any) ∧
  (∀(B:Nat) (M:AMem) ,AVal.backR B M .any = .any) ∧
  (AVal.shut .any = .any) ∧
  (AVal.shutD .any = .any) ∧
  (AVal.plainCell .any=false) ∧
  (AVal.plain .any=false) ∧
  (AVal.cells .any=[.any]) ∧
  (AVal.ids0 .any=[]) ∧
  (AVal.ids1 .any=[]) ∧
  (AVal.ids .any=[]) ∧
  (∀(M:AMem) ,AVal.frz0 M .any = .any) ∧
  (∀(M:AMem) ,AVal.frz M .any = .any) ∧
  (∀(B:Nat) (M:AMem) (xs:List AVal),AVal.back0 B M (.slice .sh xs)=(.slice .sh xs)) ∧
  (∀(B:Nat) (M:AMem) (xs:List AVal),AVal.back1 B M (.slice .sh xs)=(.slice .sh xs)) ∧
  (∀(B:Nat) (M:AMem) (xs:List AVal),AVal.back2 B M (.slice .sh xs)=(.slice .sh xs)) ∧
  (∀(B:Nat) (M:AMem) (xs:List AVal),AVal.backV B M (.slice .sh xs)=(.slice .sh xs)) ∧
  (∀(B:Nat) (M:AMem) (xs:List AVal),AVal.backR1 B M (.slice .sh xs) = .slice .sh xs) ∧
  (∀(B:Nat) (M:AMem) (xs:List AVal),AVal.backR2 B M (.slice .sh xs) = .slice .sh xs) ∧
  (∀(B:Nat) (M:AMem) (xs:List AVal),AVal.backR B M (.slice .sh xs) = .slice .sh xs) ∧
  (∀(xs:List AVal),AVal.shut (.slice .sh xs) = .slice .sh xs) ∧
  (∀(xs:List AVal),AVal.shutD (.slice .sh xs) = .slice .sh xs) ∧
  (∀(xs:List AVal),AVal.cells? (.slice .sh xs)=some [(.slice .sh xs)]) ∧
  (∀(xs:List AVal),AVal.isCell (.slice .sh xs)=true) ∧
  (∀(xs:List AVal),AVal.plainCell (.slice .sh xs)=true) ∧
  (∀(xs:List AVal),AVal.plain (.slice .sh xs)=true) ∧
  (∀(xs:List AVal),AVal.cells (.slice .sh xs)=[(.slice .sh xs)]) ∧
  (∀(xs:List AVal),AVal.ids0 (.slice .sh xs)=[]) ∧
  (∀(xs:List AVal),AVal.ids1 (.slice .sh xs)=[]) ∧
  (∀(xs:List AVal),AVal.ids (.slice .sh xs)=[]) ∧
  (∀(M:AMem) (xs:List AVal),AVal.frz0 M (.slice .sh xs)=(.slice .sh xs)) ∧
  (∀(M:AMem) (xs:List AVal),AVal.frz M (.slice .sh xs)=(.slice .sh xs)) ∧
  (∀(B:Nat) (M:AMem) (xs:List AVal),AVal.back0 B M (.slice .c0 xs)=(.slice .c0 xs)) ∧
  (∀(B:Nat) (M:AMem) (xs:List AVal),AVal.back1 B M (.slice .c0 xs)=(.slice .c0 xs)) ∧
  (∀(B:Nat) (M:AMem) (xs:List AVal),AVal.back2 B M (.slice .c0 xs)=(.slice .c0 xs)) ∧
  (∀(B:Nat) (M:AMem) (xs:List AVal),AVal.backV B M (.slice .c0 xs)=(.slice .c0 xs)) ∧
  (∀(B:Nat) (M:AMem) (xs:List AVal),AVal.backR1 B M (.slice .c0 xs) = .slice .sh xs):=by
 refine ⟨?_,?_,?_,?_,?_,?_,?_,?_,?_,?_,?_,?_,?_,?_,?_,?_,?_,?_,?_,?_,?_,?_,?_,?_,?_,?_,?_,?_,?_,?_,?_,?_,?_,?_,?_,?_,?_,?_,?_,?_⟩<;>intros<;>rfl
theorem TG8:(∀(B:Nat) (M:AMem) (xs:List AVal),AVal.backR2 B M (.slice .c0 xs) = .slice .sh xs) ∧
  (∀(B:Nat) (M:AMem) (xs:List AVal),AVal.backR B M (.slice .c0 xs) = .slice .sh xs) ∧
  (∀(xs:List AVal),AVal.shut (.slice .c0 xs) = .slice .sh xs) ∧
  (∀(xs:List AVal),AVal.shutD (.slice .c0 xs) = .slice .sh xs) ∧
  (∀(xs:List AVal),AVal.cells? (.slice .c0 xs)=some [(.slice .c0 xs)]) ∧
  (∀(xs:List AVal),AVal.isCell (.slice .c0 xs)=true) ∧
  (∀(xs:List AVal),AVal.plainCell (.slice .c0 xs)=false) ∧
  (∀(xs:List AVal),AVal.plain (.slice .c0 xs)=false) ∧
  (∀(xs:List AVal),AVal.cells (.slice .c0 xs)=[(.slice .c0 xs)]) ∧
  (∀(xs:List AVal),AVal.ids0 (.slice .c0 xs)=[]) ∧
  (∀(xs:List AVal),AVal.ids1 (.slice .c0 xs)=[]) ∧
  (∀(xs:List AVal),AVal.ids (.slice .c0 xs)=[]) ∧
  (∀(M:AMem) (xs:List AVal),AVal.frz0 M (.slice .c0 xs)=(.slice .c0 xs)) ∧
  (∀(M:AMem) (xs:List AVal),AVal.frz M (.slice .c0 xs)=(.slice .c0 xs)) ∧
  (∀(B:Nat) (M:AMem) (k:Nat) (xs:List AVal),AVal.back0 B M (.slice (.own k) xs)=if k<B then (.slice (.own k) xs) else .slice .sh xs) ∧
  (∀(B:Nat) (M:AMem) (k:Nat) (xs:List AVal),AVal.back1 B M (.slice (.own k) xs)=if k<B then (.slice (.own k) xs) else .slice .sh xs) ∧
  (∀(B:Nat) (M:AMem) (k:Nat) (xs:List AVal),AVal.back2 B M (.slice (.own k) xs)=if k<B then (.slice (.own k) xs) else .slice .sh xs) ∧
  (∀(B:Nat) (M:AMem) (k:Nat) (xs:List AVal),AVal.backV B M (.slice (.own k) xs)=if k<B then (.slice (.own k) xs) else .slice .sh xs) ∧
  (∀(B:Nat) (M:AMem) (k:Nat) (xs:List AVal),AVal.backR1 B M (.slice (.own k) xs) = .slice .sh xs) ∧
  (∀(B:Nat) (M:AMem) (k:Nat) (xs:List AVal),AVal.backR2 B M (.slice (.own k) xs) = .slice .sh xs) ∧
  (∀(B:Nat) (M:AMem) (k:Nat) (xs:List AVal),AVal.backR B M (.slice (.own k) xs) = .slice .sh xs) ∧
  (∀(k:Nat) (xs:List AVal),AVal.shut (.slice (.own k) xs) = .slice .sh xs) ∧
  (∀(k:Nat) (xs:List AVal),AVal.shutD (.slice (.own k) xs) = .slice .sh xs) ∧
  (∀(k:Nat) (xs:List AVal),AVal.cells? (.slice (.own k) xs)=some [(.slice (.own k) xs)]) ∧
  (∀(k:Nat) (xs:List AVal),AVal.isCell (.slice (.own k) xs)=true) ∧
  (∀(k:Nat) (xs:List AVal),AVal.plainCell (.slice (.own k) xs)=false) ∧
  (∀(k:Nat) (xs:List AVal),AVal.plain (.slice (.own k) xs)=false) ∧
  (∀(k:Nat) (xs:List AVal),AVal.cells (.slice (.own k) xs)=[(.slice (.own k) xs)]) ∧
  (∀(k:Nat) (xs:List AVal),AVal.ids0 (.slice (.own k) xs)=[k]) ∧
  (∀(k:Nat) (xs:List AVal),AVal.ids1 (.slice (.own k) xs)=[k]) ∧
  (∀(k:Nat) (xs:List AVal),AVal.ids (.slice (.own k) xs)=[k]) ∧
  (∀(M:AMem) (k:Nat) (xs:List AVal),AVal.frz0 M (.slice (.own k) xs)=(.slice (.own k) xs)) ∧
  (∀(M:AMem) (k:Nat) (xs:List AVal),AVal.frz M (.slice (.own k) xs)=(.slice (.own k) xs)) ∧
  (∀(B:Nat) (M:AMem) (cs:List AVal),AVal.back0 B M (.agg cs) = .any) ∧
  (∀(B:Nat) (M:AMem) (cs:List AVal),AVal.back1 B M (.agg cs) = .any) ∧
  (∀(B:Nat) (M:AMem) (cs:List AVal),AVal.back2 B M (.agg cs) = .agg (cs.map (AVal.back1 B M))) ∧
  (∀(B:Nat) (M:AMem) (cs:List AVal),AVal.backV B M (.agg cs) = .agg (cs.map (AVal.back1 B M))) ∧
  (∀(B:Nat) (M:AMem) (cs:List AVal),AVal.backR1 B M (.agg cs) = .any) ∧
  (∀(B:Nat) (M:AMem) (cs:List AVal),AVal.backR2 B M (.agg cs) = .agg (cs.map (AVal.backR1 B M))) ∧
  (∀(B:Nat) (M:AMem) (cs:List AVal),AVal.backR B M (.agg cs) = .agg (cs.map (AVal.backR1 B M))):=by
 refine ⟨?_,?_,?_,?_,?_,?_,?_,?_,?_,?_,?_,?_,?_,?_,?_,?_,?_,?_,?_,?_,?_,?_,?_,?_,?_,?_,?_,?_,?_,?_,?_,?_,?_,?_,?_,?_,?_,?_,?_,?_⟩<;>intros<;>rfl
theorem TG9:(∀(cs:List AVal),AVal.shut (.agg cs)=(.agg cs)) ∧
  (∀(cs:List AVal),AVal.shutD (.agg cs) = .agg (cs.map AVal.shut)) ∧
  (∀(cs:List AVal),AVal.cells? (.agg cs)=some cs) ∧
  (∀(cs:List AVal),AVal.isCell (.agg cs)=false) ∧
  (∀(cs:List AVal),AVal.plainCell (.agg cs)=false) ∧
  (∀(cs:List AVal),AVal.plain (.agg cs)=cs.all AVal.plainCell) ∧
  (∀(cs:List AVal),AVal.cells (.agg cs)=cs) ∧
  (∀(cs:List AVal),AVal.ids0 (.agg cs)=[]) ∧
  (∀(cs:List AVal),AVal.ids1 (.agg cs)=[]) ∧
  (∀(cs:List AVal),AVal.ids (.agg cs)=cs.flatMap AVal.ids1) ∧
  (∀(M:AMem) (cs:List AVal),AVal.frz0 M (.agg cs)=(.agg cs)) ∧
  (∀(M:AMem) (cs:List AVal),AVal.frz M (.agg cs) = .agg (cs.map (AVal.frz0 M))) ∧
  (∀(B:Nat) (M:AMem) (cs:List AVal),AVal.back0 B M (.tuple cs) = .any) ∧
  (∀(B:Nat) (M:AMem) (cs:List AVal),AVal.back1 B M (.tuple cs) = .any) ∧
  (∀(B:Nat) (M:AMem) (cs:List AVal),AVal.back2 B M (.tuple cs) = .any) ∧
  (∀(B:Nat) (M:AMem) (cs:List AVal),AVal.backV B M (.tuple cs) = .tuple (cs.map (AVal.back2 B M))) ∧
  (∀(B:Nat) (M:AMem) (cs:List AVal),AVal.backR1 B M (.tuple cs) = .any) ∧
  (∀(B:Nat) (M:AMem) (cs:List AVal),AVal.backR2 B M (.tuple cs) = .any) ∧
  (∀(B:Nat) (M:AMem) (cs:List AVal),AVal.backR B M (.tuple cs) = .tuple (cs.map (AVal.backR2 B M))) ∧
  (∀(cs:List AVal),AVal.shut (.tuple cs)=(.tuple cs)) ∧
  (∀(cs:List AVal),AVal.shutD (.tuple cs)=(.tuple cs)) ∧
  (∀(cs:List AVal),AVal.plainCell (.tuple cs)=false) ∧
  (∀(cs:List AVal),AVal.plain (.tuple cs)=false) ∧
  (∀(cs:List AVal),AVal.cells (.tuple cs)=[(.tuple cs)]) ∧
  (∀(cs:List AVal),AVal.ids0 (.tuple cs)=[]) ∧
  (∀(cs:List AVal),AVal.ids1 (.tuple cs)=[]) ∧
  (∀(cs:List AVal),AVal.ids (.tuple cs)=[]) ∧
  (∀(M:AMem) (cs:List AVal),AVal.frz0 M (.tuple cs)=(.tuple cs)) ∧
  (∀(M:AMem) (cs:List AVal),AVal.frz M (.tuple cs)=(.tuple cs)):=by
 refine ⟨?_,?_,?_,?_,?_,?_,?_,?_,?_,?_,?_,?_,?_,?_,?_,?_,?_,?_,?_,?_,?_,?_,?_,?_,?_,?_,?_,?_,?_⟩<;>intros<;>rfl
theorem fork_split {C:CallF} {fn:List ARes} {base:Nat} {k:List K} {t:Bool} {x y:ACode} {env:Env} {M:AMem} {r:Option (AVal×AMem)}
  (h1:t=true→exK C fn base k x env M=r) (h2:t=false→exK C fn base k y env M=r):forkK C fn base k (.bool t) x y env M=r:=by
 cases t
 ·exact h2 rfl
 ·exact h1 rfl
theorem guard_split {C:CallF} {fn:List ARes} {base:Nat} {k:List K} {live:List Nat} {t w:Bool} {o:AOper} {l:List AOper} {env:Env} {M:AMem} {r:Option (AVal×AMem)}
  (h1:t=w→opK C fn base k live o.dst l env (astep C o env M)=r) (h2:t = !w→opsK C fn base k live l (putS env o.dst (.tuple [])) M=r):gK C fn base k live (.bool t) w o l env M=r:=by
 cases t<;>cases w
 ·exact h1 rfl
 ·exact h2 rfl
 ·exact h2 rfl
 ·exact h1 rfl
theorem opK_pick {C:CallF} {fn:List ARes} {base:Nat} {k:List K} {live:List Nat} {d:Option Nat} {l:List AOper} {env:Env} {t:Bool} {x y r:Option (AVal×AMem)}
  (h1:t=true→opK C fn base k live d l env x=r) (h2:t=false→opK C fn base k live d l env y=r):opK C fn base k live d l env (oif t x y)=r:=by
 cases t
 ·exact h2 rfl
 ·exact h1 rfl
theorem room_ok {a b:Nat} (h:a≤1000000) (hb:b≤1000):roomOk a b=True:=by
 have:a*b≤1000000*1000:=Nat.mul_le_mul h hb
 simp only [eq_iff_iff,iff_true]
 unfold roomOk
 omega
theorem wid_one (x:AVal) (n:Nat):wid [x] n=(x.cells.length=n):=by simp [wid]
theorem wid_app (a b:List AVal) (n:Nat):wid (a++b) n=(wid a n∧wid b n):=by
 simp only [eq_iff_iff]
 exact ⟨fun h=>⟨fun x hx=>h x (List.mem_append_left _ hx),fun x hx=>h x (List.mem_append_right _ hx)⟩,fun h x hx=>(List.mem_append.1 hx).elim (h.1 x) (h.2 x)⟩
theorem wid_nil (n:Nat):wid [] n=True:=by simp [wid]
theorem nat_lt0 (m:Nat):((m:Int)<0)=False:=by simp
theorem wrapS {n:Int} (h0 : -9223372036854775808≤n) (h1:n≤9223372036854775807):IntKind.i64.wrap n=n:=by rw [IntKind.wrap_i64]; omega
theorem callOp0 {C:CallF} {f:Nat} {vs:List AVal} {r:AVal} (h:C f vs []=some (r,[])) (h1:vs.all AVal.flat=true) (h2:vs.flatMap AVal.ids=[]) (h3:r.flatR=true)
  (h4:vs.map (AVal.ren (idxN []))=vs) (h5:r.renR (atN [])=r) (M:AMem):callOp C f vs M=some (r,M):=by
 have e0:reach M []=[]:=rfl
 have e1:reach1 M []=[]:=rfl
 have e2:(vs.map (AVal.ren (idxN [])))=vs:=h4
 unfold callOp
 rw [if_pos h1,h2,e0]
 simp only [pickM,obind_some]
 rw [if_pos e1,e2,h]
 simp [h3,h5,wback]
theorem callOp1 {C:CallF} {f p:Nat} {vs:List AVal} {r:AVal} {M:AMem} {cs cs':List AVal} (hM:nth M p=some (.cells cs)) (h:C f (.ptr 0 0::vs) [.cells cs]=some (r,[.cells cs'])) (h1:vs.all AVal.flat=true) (h2:vs.flatMap AVal.ids=[]) (h3:r.flatR=true)
  (h4:vs.map (AVal.ren (idxN [p]))=vs) (h5:r.renR (atN [p])=r) (h6:cs.all AVal.flat1=true) (h7:cs.flatMap AVal.ids1=[]) (h8:cs.map (AVal.ren1 (idxN [p]))=cs) (h9:cs'.all AVal.flat1=true) (h10:cs'.map (AVal.ren1 (atN [p]))=cs') :
  callOp C f (.ptr p 0::vs) M=some (r,setN M p (.cells cs')):=by
 have hids:(AVal.ptr p 0::vs).flatMap AVal.ids=[p]:=by simp [AVal.ids,AVal.ids1,AVal.ids0,h2]
 have hi:idsAt M [p]=[]:=by simp [idsAt,hM,ABox.ids,h7]
 have e0:reach1 M [p]=[p]:=by simp [reach1,hi,addAll]
 have e1:reach M [p]=[p]:=by
  have ea:addAll [] [p]=[p]:=rfl
  simp only [reach,ea,e0]
 have hfl:(AVal.ptr p 0::vs).all AVal.flat=true:=by simp only [List.all_cons,h1,Bool.and_true]; rfl
 unfold callOp
 rw [if_pos hfl,hids,e1]
 have hpk:pickM M (idxN [p]) [p]=some [.cells cs]:=by simp [pickM,hM,ABox.flat,h6,ABox.ren,h8]
 rw [hpk]
 simp only [obind_some]
 rw [if_pos e0]
 have hrn:(AVal.ptr p 0::vs).map (AVal.ren (idxN [p])) = .ptr 0 0::vs:=by
  simp only [List.map_cons,h4]
  simp [AVal.ren,AVal.ren1,AVal.ren0,idxN]
 rw [hrn,h]
 simp only [obind_some]
 rw [if_pos ⟨rfl,h3,by simp [ABox.flat,h9]⟩,h5]
 simp only [wback,ABox.ren,h10]
theorem max_lt (n:Nat) (h:n≤9223372036854775807):(IntKind.i64.max<(n:Int))=False:=by
 have:IntKind.i64.max=9223372036854775807:=rfl
 simp only [eq_iff_iff,iff_false,this]; omega
end Go.Abs
namespace Go.Abs
open Go
set_option linter.defProp false in
def EVT:=And.intro @exK_skip (And.intro @exK_exit (And.intro @exK_ret (And.intro @exK_seq (And.intro @exK_block (And.intro @exK_cond (And.intro @exK_region (And.intro @opsK_nil (And.intro @opsK_none (And.intro @opsK_some (And.intro @opK_some (And.intro @gK_tt (And.intro @gK_ff (And.intro @gK_tf (And.intro @gK_ft (And.intro @gK_un (And.intro @forkK_t (And.intro @forkK_f (And.intro @kr_seq (And.intro @kr_seq_exit (And.intro @kr_seq_ret (And.intro @kr_block (And.intro @kr_block_exit (And.intro @kr_block_ret (And.intro @kr_loop (And.intro @kr_loop_exit (And.intro @kr_loop_ret (And.intro @kr_nil (And.intro @List.map_cons.{0,0} (And.intro @List.map_nil.{0,0} (And.intro @obind_some (And.intro @oif_true (And.intro @oif_false (And.intro @Nat.add_zero (And.intro @Nat.zero_add (And.intro @List.length_cons.{0} (And.intro @List.length_nil.{0} (And.intro @List.all_cons.{0} (And.intro @List.all_nil.{0} (And.intro @Bool.and_self (And.intro @List.take_zero.{0} (And.intro @List.nil_append.{0} (And.intro @List.take_succ_cons.{0} (And.intro @List.drop_succ_cons.{0} (And.intro @List.drop_zero.{0} (And.intro @List.drop_nil.{0} (And.intro @List.take_nil.{0} (And.intro @List.append_nil.{0} (And.intro @List.cons_append.{0} (And.intro @Nat.le_refl (And.intro @and_self (And.intro @not_true_eq_false (And.intro @not_false_eq_true (And.intro @Nat.one_ne_zero (And.intro @Nat.zero_ne_one (And.intro @Nat.not_lt_zero (And.intro @Nat.lt_irrefl (And.intro @List.map_take.{0,0} (And.intro @List.length_map.{0,0} (And.intro @Int.toNat_natCast (And.intro @List.getElem?_map.{0,0} (And.intro @Option.map_some.{0,0} (And.intro @owhen_true (And.intro @Int.natCast_nonneg (And.intro @decide_true (And.intro @decide_false (And.intro @BEq.rfl.{0} (And.intro @beq_self_eq_true.{0} (And.intro @Bool.not_true (And.intro @Bool.not_false (And.intro @nat_lt0 (And.intro @wid_one (And.intro @wid_nil (And.intro @and_true (And.intro @true_and (And.intro @Bool.and_true (And.intro @List.length_append.{0} (And.intro @ge_iff_le.{0} (And.intro @gt_iff_lt.{0} (And.intro @wid_app (And.intro @List.prefix_refl.{0} (And.intro @true_or (And.intro @or_true (And.intro @List.cons_prefix_cons.{0} (And.intro @List.nil_prefix.{0} (And.intro @List.cons_ne_nil.{0} (And.intro @List.flatMap_cons.{0,0} (And.intro @List.flatMap_nil.{0,0} (And.intro @max_lt (And.intro @TG0 (And.intro @TG1 (And.intro @TG2 (And.intro @TG3 (And.intro @TG4 (And.intro @TG5 (And.intro @TG6 (And.intro @TG7 (And.intro @TG8 (@TG9))))))))))))))))))))))))))))))))))))))))))))))))))))))))))))))))))))))))))))))))))))))))))))))))))
set_option linter.defProp false in
def EVD:=And.intro @finish.eq_1 (And.intro @resAll.eq_1 (And.intro @resAll.eq_2 (And.intro @resOf.eq_1 (And.intro @resOf.eq_2 (And.intro @resOf.eq_3 (And.intro @one.eq_1 (And.intro @one.eq_2 (And.intro @astep.eq_1 (And.intro @aop.eq_1 (And.intro @aop.eq_2 (And.intro @aop.eq_3 (And.intro @aop.eq_4 (And.intro @aop.eq_5 (And.intro @aop.eq_6 (And.intro @aop.eq_7 (And.intro @aop.eq_8 (And.intro @aop.eq_9 (And.intro @aop.eq_10 (And.intro @aop.eq_11 (And.intro @aop.eq_12 (And.intro @aop.eq_13 (And.intro @aop.eq_14 (And.intro @aop.eq_15 (And.intro @aop.eq_16 (And.intro @aop.eq_17 (And.intro @aop.eq_18 (And.intro @aop.eq_19 (And.intro @aop.eq_20 (And.intro @aop.eq_21 (And.intro @aop.eq_22 (And.intro @aop.eq_23 (And.intro @aop.eq_24 (And.intro @aop.eq_25 (And.intro @aop.eq_26 (And.intro @aop.eq_27 (And.intro @aop.eq_28 (And.intro @aop.eq_29 (And.intro @aop.eq_30 (And.intro @aop.eq_31 (And.intro @aop.eq_32 (And.intro @aop.eq_33 (And.intro @aop.eq_34 (And.intro @aop.eq_35 (And.intro @aop.eq_36 (And.intro @aop.eq_37 (And.intro @aop.eq_38 (And.intro @aop.eq_39 (And.intro @aop.eq_40 (And.intro @aop.eq_41 (And.intro @aop.eq_42 (And.intro @aop.eq_43 (And.intro @aop.eq_44 (And.intro @aop.eq_45 (And.intro @aop.eq_46 (And.intro @aop.eq_47 (And.intro @aop.eq_48 (And.intro @aop.eq_49 (And.intro @aop.eq_50 (And.intro @aop.eq_51 (And.intro @aop.eq_52 (And.intro @aop.eq_53 (And.intro @aop.eq_54 (And.intro @parsFrom.eq_1 (And.intro @parsFrom.eq_2 (And.intro @Opd.ev.eq_1 (And.intro @Opd.ev.eq_2 (And.intro @getS.eq_1 (And.intro @getS.eq_2 (And.intro @putS.eq_1 (And.intro @putS.eq_2 (And.intro @keepS.eq_1 (And.intro @nth.eq_1 (And.intro @nth.eq_2 (And.intro @nth.eq_3 (And.intro @setN.eq_1 (And.intro @setN.eq_2 (And.intro @setN.eq_3 (And.intro @abin.eq_1 (And.intro @abin.eq_2 (And.intro @abin.eq_3 (And.intro @abin.eq_4 (And.intro @abin.eq_5 (And.intro @abin.eq_6 (And.intro @abin.eq_7 (And.intro @abin.eq_8 (And.intro @abin.eq_9 (And.intro @abin.eq_10 (And.intro @abin.eq_11 (And.intro @abin.eq_12 (And.intro @abin.eq_13 (And.intro @abin.eq_14 (And.intro @abin.eq_15 (And.intro @abin.eq_16 (And.intro @abin.eq_17 (And.intro @abin.eq_18 (And.intro @abin.eq_19 (And.intro @abin.eq_20 (And.intro @abin.eq_21 (And.intro @abin.eq_22 (And.intro @abin.eq_23 (And.intro @abin.eq_24 (And.intro @abin.eq_25 (And.intro @writeAt.eq_1 (And.intro @backE.eq_1 (And.intro @backM.eq_1 (And.intro @ABox.back.eq_1 (And.intro @ABox.back.eq_2 (And.intro @ABox.back.eq_3 (And.intro @ABox.back.eq_4 (And.intro @ABox.back.eq_5 (And.intro @litsOf.eq_1 (And.intro @litsOf.eq_2 (And.intro @sepAll.eq_1 (And.intro @sepAll.eq_2 (And.intro @fillParts.eq_1 (And.intro @fillParts.eq_2 (And.intro @AOp.argIds.eq_1 (And.intro @AOp.argIds.eq_2 (And.intro @AOp.argIds.eq_3 (And.intro @boundOf.eq_1 (And.intro @boundOf.eq_2 (And.intro @ob.eq_1 (And.intro @og.eq_1 (And.intro @ox.eq_1 (@bytesOf.eq_1)))))))))))))))))))))))))))))))))))))))))))))))))))))))))))))))))))))))))))))))))))))))))))))))))))))))))))))))))))))))))))))
set_option linter.defProp false in
def BBT:=And.intro @Bool.and_true (And.intro @Bool.true_and (And.intro @Bool.and_false (And.intro @Bool.false_and (And.intro @Bool.or_true (And.intro @Bool.true_or (And.intro @Bool.or_false (And.intro @Bool.false_or (And.intro @Bool.not_true (And.intro @Bool.not_false (And.intro @Bool.and_self (And.intro @Bool.or_self (And.intro @Bool.false_eq_true (@beq_self_eq_true.{0})))))))))))))
end Go.Abs
namespace Go.Proofs.YtannopdcbocngaaGreatDoor
open Go Go.Abs Go.RowKit Go.Shelf
attribute [local go_sem] Oper.semAt_some
abbrev BytesL:=List UInt8
abbrev PB:={ x:BytesL // x.length≤900000 }
abbrev encS (x:PB):Array Value := #[.string (bs x.1)]
def cellLen (b0:Nat) (w:World):Nat:=match w.cell? ⟨b0,0,none⟩ with
 |some (.string s)=>s.size
 |_=>0
theorem bs_extract (c:BytesL) (m n:Nat):(bs c).extract m n=bs ((c.take n).drop m):=by
 apply ByteArray.ext
 simp [bs,List.extract_eq_take_drop,List.drop_take]
theorem cellLen_of {b0:Nat} {w:World} {s:BytesL} (h:Boxed w b0 9 (.string (bs s))):cellLen b0 w=s.length:=by
 unfold cellLen
 rw [h.cell]
 rfl
theorem boxed_other {W:World} {B B':Nat} {t:TypeId} {v:Value} (h:Boxed W B t v) (hne:B≠B') (u:Value):Boxed (W.setCell ⟨B',0,none⟩ u) B t v :=
 (Below.heap_setCell _ _ _ _ (by show _≠B'; omega)).trans h
structure Kp (b0:Nat) (A B:World):Prop where
 k0:B.heap[b0]?=A.heap[b0]?
 k1:B.heap[b0+1]?=A.heap[b0+1]?
 k2:B.heap[b0+2]?=A.heap[b0+2]?
set_option maxRecDepth 100000 in
set_option maxHeartbeats 1000000 in
theorem iter140 (n:Nat) (hn:3≤n) (l b0 N:Nat) (s0:BytesL) (hN:(cutL 10 s0).length≤N) (hlen0:s0.length≤900000) (J Jx:List PB→World→Prop) (W:World) (hJ:AbidesFrom W.heap.size J) (hJc:∀s A v,J s A→J s (A.setCell ⟨b0,0,none⟩ v))
  (hY:∀pre x W1,J pre W1→pre.length<N→YieldAt Fence.wide (n-1) Tryz.prog l (encS x) W1 fun e W' =>
   (e = .returned (.bool true)∧J (pre++[x]) W'∧Kp b0 W1 W')∨(e = .returned (.bool false)∧Jx (pre++[x]) W'))
  (hB:Boxed W b0 9 (.string (bs s0))) (hB1:Boxed W (b0+1) 9 (.string ⟨#[10]⟩)) (hB2:Boxed W (b0+2) 3 (.int .i64 0)) (h0:J [] W) :
  CallsIn Fence.wide n Tryz.prog 140 #[.func (.yield l) #[] #[],.pointer (some ⟨b0+1,0,none⟩),.pointer (some ⟨b0,0,none⟩),.pointer (some ⟨b0+2,0,none⟩)] W fun e W'=>(∃v,e = .returned v) ∧
   ((∃xs:List PB,xs.map (·.1)=cutL 10 s0∧J xs W')∨(∃pre:List PB,pre.map (·.1) <+: cutL 10 s0∧Jx pre W')):=by
 refine callsIn_of_wp Tryz.func140 rfl trivial ?_ rfl
 simp only [Tryz.ntmps140,List.size_toArray,List.length_cons,List.length_nil,Nat.reduceAdd,Nat.reduceSub,Array.replicate_succ,Array.replicate_zero,List.push_toArray,List.append_toArray,List.nil_append,List.cons_append]
 have c1:=hB1.cell
 gi_wp2
 gi_loopw [7] (fun _ wr=>∃(pre:List PB) (rest:BytesL),Boxed wr b0 9 (.string (bs rest))∧Boxed wr (b0+1) 9 (.string ⟨#[10]⟩)∧Boxed wr (b0+2) 3 (.int .i64 0)∧rest.length≤900000∧cutL 10 s0=pre.map (·.1)++cutL 10 rest∧J pre wr)
  (fun _ wr=>cellLen b0 wr)
 case atStart =>
  exact ⟨[],s0,hB,hB1,hB2,hlen0,rfl,h0⟩
 case round =>
  obtain ⟨pre,rest,hb,hb1,hb2,hrl,hp,hJs⟩:=hrel
  have hc:=hb.cell
  have hf:=hb.frozen
  have hc1:=hb1.cell
  have hc2:=hb2.cell
  gi_wp2
  refine ⟨trivial,fun h=>(by cases h),(callsIn_wide.2 (index138 _ _)).mono ?_⟩
  rintro e w1 ⟨rfl,rfl⟩
  have hge:=Lib.indexByte_ge rest 10
  have hlen:pre.length<N:=by
   have:=congrArg List.length hp
   have:=List.length_pos_iff.2 (cutL_ne 10 rest)
   simp at *
   omega
  by_cases hi:Lib.indexByte rest 10<0
  ·have hi':Lib.indexByte (bs rest).data.toList 10<0:=hi
   obtain ⟨fn,tmps,assign,body,hy,hR⟩:=hY pre ⟨rest,hrl⟩ w1 hJs hlen
   have hcut:cutL 10 s0=(pre++[⟨rest,hrl⟩]:List PB).map (·.1):=by rw [hp,cutL_none 10 rest hi]; simp
   gi_wp2
   refine ⟨fun h=>(by cases h),hR.mono ?_⟩
   rintro e W3 (⟨rfl,hJ3,hk3⟩|⟨rfl,hJx3⟩)
   ·gi_wp2
    go_end0
    exact ⟨⟨_,rfl⟩,.inl ⟨_,hcut.symm,hJ3⟩⟩
   ·gi_wp2
    go_end0
    exact ⟨⟨_,rfl⟩,.inr ⟨_,by rw [hcut]; exact List.prefix_refl _,hJx3⟩⟩
  ·obtain ⟨k,hk⟩:∃k:Nat,Lib.indexByte rest 10=k:=⟨(Lib.indexByte rest 10).toNat,by omega⟩
   have hle:k<rest.length:=by
    have:=Lib.indexByte_some hk
    exact (List.getElem?_eq_some_iff.1 this.1).1
   have hk':Lib.indexByte (bs rest).data.toList 10=k:=hk
   have hkl:(rest.take k).length≤900000:=by simp; omega
   have hcut:cutL 10 s0=(pre++[⟨rest.take k,hkl⟩]:List PB).map (·.1)++cutL 10 (rest.drop (k+1)):=by rw [hp,cutL_some 10 rest k hk]; simp
   obtain ⟨fn,tmps,assign,body,hy,hR⟩:=hY pre ⟨rest.take k,hkl⟩ w1 hJs hlen
   have hsz:(bs rest).size=rest.length:=rfl
   have hw0:IntKind.i64.wrap ((k:Int)+0)=(k:Int):=by rw [Int.add_zero]; exact wrapS (by omega) (by omega)
   have hw1:IntKind.i64.wrap ((k:Int)+1)=((k+1:Nat):Int):=by rw [wrapS (by omega) (by omega)]; omega
   rw [hk']
   have hn0:¬((k:Int)<0):=by omega
   have hb0:(k:Int)≤(bs rest).size:=by rw [hsz]; omega
   simp only [encS] at hy
   rw [show bs (rest.take k)=(bs rest).extract 0 k by rw [bs_extract]; rfl] at hy
   gi_wp2
   refine ⟨fun h=>(by cases h),hR.mono ?_⟩
   rintro e W3 (⟨rfl,hJ3,hk3⟩|⟨rfl,hJx3⟩)
   ·have hb3:Boxed W3 b0 9 (.string (bs rest)):=hk3.k0.trans hb
    have hb31:Boxed W3 (b0+1) 9 (.string ⟨#[10]⟩):=hk3.k1.trans hb1
    have hb32:Boxed W3 (b0+2) 3 (.int .i64 0):=hk3.k2.trans hb2
    have hc3:=hb3.cell
    have hf3:=hb3.frozen
    have hc31:=hb31.cell
    have hb4:((k+1:Nat):Int)≤(bs rest).size:=by rw [hsz]; omega
    gi_wp2
    go_roundw
    case rel =>
     refine ⟨pre++[⟨rest.take k,hkl⟩],rest.drop (k+1),?_,boxed_other hb31 (by omega) _,boxed_other hb32 (by omega) _,by simp; omega,hcut,hJc _ _ _ hJ3⟩
     rw [bs_extract,List.take_length]
     exact (show Boxed W3 b0 9 (.string (bs rest)) from hb3).set _
    case measure =>
     have h1:=cellLen_of ((show Boxed W3 b0 9 (.string (bs rest)) from hb3).set (.string (bs (rest.drop (k+1)))))
     rw [bs_extract,List.take_length,h1,cellLen_of (show Boxed w1 b0 9 (.string (bs rest)) from hb)]
     simp; omega
   ·gi_wp2
    refine bodyPost_ret (results_none rfl _ _ _) rfl ?_
    exact ⟨⟨_,rfl⟩,.inr ⟨_,⟨cutL 10 (rest.drop (k+1)),hcut.symm⟩,hJx3⟩⟩
end Go.Proofs.YtannopdcbocngaaGreatDoor
set_option linter.defProp false
namespace Go.Proofs.YtannopdcbocngaaGreatDoor
open Go Go.Abs
def q15_0:ACode :=
 (.region [
 ob 16 (.faddr 0 (.tmp 1)),
 ob 17 (.load1 (.tmp 16)),
 ob 18 (.iaddrA 18 1 (.cst (.rptr gv0)) (.tmp 17)),
 ob 19 (.load1 (.tmp 18)),
 ob 3 (.mv (.tmp 19))] false [1,3])
def q15_1:ACode :=
 (.seq (.region [
 ob 20 (.mv (.tmp 3)),
 ob 21 (.faddr 1 (.tmp 1)),
 ob 22 (.load1 (.tmp 21)),
 ob 23 (.build [(.str []),(.int .i64 0),(.str [])] [(0,1,(.cst (.str [99,108,105,101,110,116]))),(1,1,(.tmp 22)),(2,1,(.cst (.str [])))]),
 ob 24 (.faddr 2 (.tmp 1)),
 ob 25 (.load1 (.tmp 24)),
 ⟨(some 26),.call 44 [(.tmp 25)],none,true,false,[]⟩,
 ob 27 (.build [(.str []),(.int .i64 0),(.str [])] [(0,1,(.cst (.str [112,97,116,104]))),(1,1,(.cst (.int .i64 0))),(2,1,(.tmp 26))]),
 ob 28 (.faddr 3 (.tmp 1)),
 ob 29 (.load1 (.tmp 28)),
 ⟨(some 30),.call 44 [(.tmp 29)],none,true,false,[]⟩,
 ob 31 (.build [(.str []),(.int .i64 0),(.str [])] [(0,1,(.cst (.str [116,111]))),(1,1,(.cst (.int .i64 0))),(2,1,(.tmp 30))]),
 ob 32 (.faddr 4 (.tmp 1)),
 ob 33 (.load1 (.tmp 32)),
 ob 34 (.build [(.str []),(.int .i64 0),(.str [])] [(0,1,(.cst (.str [110]))),(1,1,(.tmp 33)),(2,1,(.cst (.str [])))]),
 ob 35 (.faddr 5 (.tmp 1)),
 ob 36 (.load1 (.tmp 35)),
 ob 37 (.build [(.str []),(.int .i64 0),(.str [])] [(0,1,(.cst (.str [109]))),(1,1,(.tmp 36)),(2,1,(.cst (.str [])))]),
 ob 38 (.faddr 6 (.tmp 1)),
 ob 39 (.load1 (.tmp 38)),
 ob 40 (.build [(.str []),(.int .i64 0),(.str [])] [(0,1,(.cst (.str [104,97,110,100,108,101]))),(1,1,(.tmp 39)),(2,1,(.cst (.str [])))]),
 ob 41 (.faddr 7 (.tmp 1)),
 ob 42 (.load1 (.tmp 41)),
 ob 43 (.b2s (.tmp 42)),
 ⟨(some 44),.call 44 [(.tmp 43)],none,true,false,[]⟩,
 ob 45 (.build [(.str []),(.int .i64 0),(.str [])] [(0,1,(.cst (.str [100,97,116,97]))),(1,1,(.cst (.int .i64 0))),(2,1,(.tmp 44))]),
 ob 46 (.lits 3 [(.tmp 23),(.tmp 27),(.tmp 31),(.tmp 34),(.tmp 37),(.tmp 40),(.tmp 45)]),
 ob 47 (.call 43 [(.tmp 20),(.tmp 46)]),
 ob 2 (.mv (.tmp 47))] true [2]) (.ret))
def q15_2:ACode :=
 (.seq (.seq (.region [
 ob 8 (.faddr 0 (.tmp 1)),
 ob 9 (.load1 (.tmp 8)),
 ob 10 (.bin .gtr (.tmp 9) (.cst (.int .i64 0))),
 ob 11 (.mv (.tmp 10)),
 og 12 11 true (.faddr 0 (.tmp 1)),
 og 13 11 true (.load1 (.tmp 12)),
 og 14 11 true (.bin .lss (.tmp 13) (.cst (.int .i64 18))),
 ob 15 (.pick (.tmp 11) (.tmp 14) (.cst (.bool false)))] false [1,3,15]) (.cond (.tmp 15) q15_0 (.skip))) q15_1)
def q15_3:ACode :=
 (.seq (.region [
 ob 4 (.faddr 0 (.tmp 1)),
 ob 5 (.load1 (.tmp 4)),
 ob 6 (.call 42 [(.tmp 5)]),
 ob 7 (.bin .add (.cst (.str [111,112])) (.tmp 6)),
 ob 3 (.mv (.tmp 7))] false [1,3]) q15_2)
def E15:=And.intro (exK_head q15_0.eq_1) (And.intro (exK_head q15_1.eq_1) (And.intro (exK_head q15_2.eq_1) (exK_head q15_3.eq_1)))
def ann15:Ann:={ n:=48,own:=[],lv:=[(0,[1]),(1,[1,3]),(2,[1,3,15]),(3,[1,3]),(4,[2])],lp:=[] }
def fn15:AFn:=AFn.mk 1 [.tmp 2]
 (.seq (.region [
 ob 1 (.box (.tmp 0)),
 ob 2 (.mv (.cst (.str [])))] false [1]) q15_3)
theorem ok15:compFn Tryz.prog ann15 Tryz.f15=some fn15:=by kernel_rfl
def q17_0:ACode :=
 (.region [
 ob 11 (.faddr 0 (.tmp 1)),
 ob 12 (.load1 (.tmp 11)),
 ob 13 (.call 42 [(.tmp 12)]),
 ob 14 (.bin .add (.cst (.str [101,114,114,111,114])) (.tmp 13)),
 ob 3 (.mv (.tmp 14))] false [1,3])
def q17_1:ACode :=
 (.region [
 ob 37 (.mv (.tmp 5)),
 ob 38 (.mv (.tmp 7)),
 ob 39 (.call 44 [(.tmp 38)]),
 ob 40 (.lits 1 [(.tmp 39)]),
 ob 41 (.append 1 16 (.tmp 37) (.tmp 40)),
 ob 5 (.mv (.tmp 41))] false [1,4,5,31,32,33])
def q17_2:ACode :=
 (.region [
 ob 42 (.bin .add (.tmp 33) (.cst (.int .i64 1))),
 ob 33 (.mv (.tmp 42))] false [1,4,5,31,32,33])
def q17_3:ACode :=
 (.seq (.block 1 (.seq (.region [
 ob 35 (.iaddr 1 (.tmp 31) (.tmp 33)),
 ob 36 (.load1 (.tmp 35)),
 ob 7 (.mv (.tmp 36))] false [1,4,5,7,31,32,33]) q17_1)) q17_2)
def q17_4:ACode :=
 (.seq (.cond (.tmp 34) (.skip) (.exit 0)) q17_3)
def lb17_0:ACode :=
 (.seq (.region [
 ob 34 (.bin .lss (.tmp 33) (.tmp 32))] false [1,4,5,31,32,33,34]) q17_4)
def q17_5:ACode :=
 (.block 0 (.loop [1,4,5,31,32,33] lb17_0))
def q17_6:ACode :=
 (.region [
 ob 46 (.mv (.tmp 4)),
 ob 47 (.mv (.tmp 5)),
 ob 48 (.call 48 [(.tmp 47),(.cst (.str [44]))]),
 ob 49 (.bin .add (.cst (.str [32,110,97,109,101,115,61])) (.tmp 48)),
 ob 50 (.bin .add (.tmp 46) (.tmp 49)),
 ob 4 (.mv (.tmp 50))] false [1,4])
def q17_7:ACode :=
 (.seq (.region [
 ob 51 (.mv (.tmp 4)),
 ob 52 (.faddr 6 (.tmp 1)),
 ob 53 (.load1 (.tmp 52)),
 ob 54 (.b2s (.tmp 53)),
 ob 55 (.call 44 [(.tmp 54)]),
 ob 56 (.build [(.str []),(.int .i64 0),(.str [])] [(0,1,(.cst (.str [100,97,116,97]))),(1,1,(.cst (.int .i64 0))),(2,1,(.tmp 55))]),
 ob 57 (.lits 3 [(.tmp 56)]),
 ob 58 (.call 43 [(.tmp 51),(.tmp 57)]),
 ob 2 (.mv (.tmp 58))] false [2]) (.ret))
def q17_8:ACode :=
 (.seq (.seq (.region [
 ob 43 (.mv (.tmp 5)),
 ob 44 (.lenV (.tmp 43)),
 ob 45 (.bin .gtr (.tmp 44) (.cst (.int .i64 0)))] false [1,4,5,45]) (.cond (.tmp 45) q17_6 (.skip))) q17_7)
def q17_9:ACode :=
 (.seq (.seq (.region [
 ob 30 (.faddr 5 (.tmp 1)),
 ob 31 (.load1 (.tmp 30)),
 ob 32 (.lenV (.tmp 31)),
 ob 33 (.mv (.cst (.int .i64 0)))] false [1,4,5,31,32,33]) q17_5) q17_8)
def q17_10:ACode :=
 (.seq (.region [
 ob 5 (.own 1 (.cst (.slice .c0 [])))] false [1,4,5]) q17_9)
def q17_11:ACode :=
 (.seq (.region [
 ob 15 (.mv (.tmp 3)),
 ob 16 (.faddr 1 (.tmp 1)),
 ob 17 (.load1 (.tmp 16)),
 ob 18 (.build [(.str []),(.int .i64 0),(.str [])] [(0,1,(.cst (.str [105,110,111]))),(1,1,(.tmp 17)),(2,1,(.cst (.str [])))]),
 ob 19 (.faddr 2 (.tmp 1)),
 ob 20 (.load1 (.tmp 19)),
 ob 21 (.build [(.str []),(.int .i64 0),(.str [])] [(0,1,(.cst (.str [107,105,110,100]))),(1,1,(.tmp 20)),(2,1,(.cst (.str [])))]),
 ob 22 (.faddr 3 (.tmp 1)),
 ob 23 (.load1 (.tmp 22)),
 ob 24 (.build [(.str []),(.int .i64 0),(.str [])] [(0,1,(.cst (.str [110]))),(1,1,(.tmp 23)),(2,1,(.cst (.str [])))]),
 ob 25 (.faddr 4 (.tmp 1)),
 ob 26 (.load1 (.tmp 25)),
 ob 27 (.build [(.str []),(.int .i64 0),(.str [])] [(0,1,(.cst (.str [109]))),(1,1,(.tmp 26)),(2,1,(.cst (.str [])))]),
 ob 28 (.lits 3 [(.tmp 18),(.tmp 21),(.tmp 24),(.tmp 27)]),
 ob 29 (.call 43 [(.tmp 15),(.tmp 28)]),
 ob 4 (.mv (.tmp 29))] false [1,4]) q17_10)
def q17_12:ACode :=
 (.seq (.seq (.region [
 ob 8 (.faddr 0 (.tmp 1)),
 ob 9 (.load1 (.tmp 8)),
 ob 10 (.bin .neq (.tmp 9) (.cst (.int .i64 0)))] false [1,3,10]) (.cond (.tmp 10) q17_0 (.skip))) q17_11)
def q17_13:ACode :=
 (.seq (.region [
 ob 3 (.mv (.cst (.str [111,107])))] false [1,3]) q17_12)
def E17:=And.intro (exK_head q17_0.eq_1) (And.intro (exK_head q17_1.eq_1) (And.intro (exK_head q17_2.eq_1) (And.intro (exK_head q17_3.eq_1) (And.intro (exK_head q17_4.eq_1) (And.intro (exK_head lb17_0.eq_1) (And.intro (exK_head q17_5.eq_1) (And.intro (exK_head q17_6.eq_1) (And.intro (exK_head q17_7.eq_1) (And.intro (exK_head q17_8.eq_1) (And.intro (exK_head q17_9.eq_1) (And.intro (exK_head q17_10.eq_1) (And.intro (exK_head q17_11.eq_1) (And.intro (exK_head q17_12.eq_1) (exK_head q17_13.eq_1))))))))))))))
def ann17:Ann:={ n:=59,own:=[5],lv:=[(0,[1]),(1,[1,3]),(2,[1,3,10]),(3,[1,3]),(4,[1,4]),(5,[1,4,5]),(6,[1,4,5,31,32,33]),(7,[1,4,5,31,32,33,34]),(8,[1,4,5,7,31,32,33]),(9,[1,4,5,31,32,33]),(10,[1,4,5,31,32,33]),(11,[1,4,5,45]),(12,[1,4]),(13,[2])],lp:=[(7,[1,4,5,31,32,33])] }
def fn17:AFn:=AFn.mk 1 [.tmp 2]
 (.seq (.region [
 ob 1 (.box (.tmp 0)),
 ob 2 (.mv (.cst (.str [])))] false [1]) q17_13)
theorem ok17:compFn Tryz.prog ann17 Tryz.f17=some fn17:=by kernel_rfl
def q19_0:ACode :=
 (.region [
 ob 16 (.faddr 1 (.tmp 5)),
 ob 17 (.load1 (.tmp 16)),
 ⟨(some 18),.call 42 [(.tmp 17)],none,true,false,[]⟩,
 ob 19 (.bin .add (.cst (.str [98,101,103,105,110,32])) (.tmp 18)),
 ob 20 (.bin .add (.tmp 19) (.cst (.str [58,32]))),
 ob 21 (.faddr 2 (.tmp 5)),
 ob 22 (.loadA 8 (.tmp 21)),
 ob 23 (.call 15 [(.tmp 22)]),
 ob 24 (.bin .add (.tmp 20) (.tmp 23)),
 ob 25 (.bin .add (.tmp 24) (.cst (.str [10]))),
 ob 26 (.call 50 [(.tmp 3),(.tmp 25)])] true [3,6,7,8])
def q19_1:ACode :=
 (.region [
 ob 29 (.faddr 1 (.tmp 5)),
 ob 30 (.load1 (.tmp 29)),
 ⟨(some 31),.call 42 [(.tmp 30)],none,true,false,[]⟩,
 ob 32 (.bin .add (.cst (.str [101,110,100,32])) (.tmp 31)),
 ob 33 (.bin .add (.tmp 32) (.cst (.str [58,32]))),
 ob 34 (.faddr 10 (.tmp 5)),
 ob 35 (.loadA 7 (.tmp 34)),
 ob 36 (.call 17 [(.tmp 35)]),
 ob 37 (.bin .add (.tmp 33) (.tmp 36)),
 ob 38 (.bin .add (.tmp 37) (.cst (.str [10]))),
 ob 39 (.call 50 [(.tmp 3),(.tmp 38)])] true [3,6,7,8])
def q19_2:ACode :=
 (.seq (.region [
 ob 28 (.bin .eql (.tmp 13) (.cst (.int .i64 2))),
 ob 27 (.mv (.tmp 28))] false [3,5,6,7,8,27]) (.cond (.tmp 27) q19_1 (.skip)))
def q19_3:ACode :=
 (.block 2 (.seq (.region [
 ob 15 (.bin .eql (.tmp 13) (.cst (.int .i64 1))),
 ob 14 (.mv (.tmp 15))] false [3,5,6,7,8,13,14]) (.cond (.tmp 14) q19_0 q19_2)))
def q19_4:ACode :=
 (.seq (.region [
 ob 12 (.faddr 0 (.tmp 5)),
 ob 13 (.load1 (.tmp 12))] false [3,5,6,7,8,13]) q19_3)
def q19_5:ACode :=
 (.region [
 ob 40 (.bin .add (.tmp 8) (.cst (.int .i64 1))),
 ob 8 (.mv (.tmp 40))] false [3,6,7,8])
def q19_6:ACode :=
 (.seq (.block 1 (.seq (.region [
 ob 10 (.iaddr 17 (.tmp 6) (.tmp 8)),
 ob 11 (.loadA 17 (.tmp 10)),
 ob 5 (.box0 [(.int .i64 0),(.int .i64 0),(.int .i64 0),(.int .i64 0),(.str []),(.str []),(.int .i64 0),(.int .i64 0),(.int .i64 0),(.slice .c0 []),(.int .i64 0),(.int .i64 0),(.int .i64 0),(.int .i64 0),(.int .i64 0),(.slice .c0 []),(.slice .c0 [])]),
 ox (.store 17 (.tmp 5) (.tmp 11))] false [3,5,6,7,8]) q19_4)) q19_5)
def q19_7:ACode :=
 (.seq (.cond (.tmp 9) (.skip) (.exit 0)) q19_6)
def lb19_0:ACode :=
 (.seq (.region [
 ob 9 (.bin .lss (.tmp 8) (.tmp 7))] false [3,6,7,8,9]) q19_7)
def q19_8:ACode :=
 (.seq (.region [
 ob 41 (.call 51 [(.tmp 3)]),
 ob 2 (.mv (.tmp 41))] false [2]) (.ret))
def q19_9:ACode :=
 (.seq (.seq (.region [
 ob 6 (.mv (.tmp 0)),
 ob 7 (.lenV (.tmp 6)),
 ob 8 (.mv (.cst (.int .i64 0)))] false [3,6,7,8]) (.block 0 (.loop [3,6,7,8] lb19_0))) q19_8)
def q19_10:ACode :=
 (.seq (.region [
 ob 3 (.boxO 87 5 [(.raw (.pointer none)),(.slice .c0 [])])] false [0,3]) q19_9)
def E19:=And.intro (exK_head q19_0.eq_1) (And.intro (exK_head q19_1.eq_1) (And.intro (exK_head q19_2.eq_1) (And.intro (exK_head q19_3.eq_1) (And.intro (exK_head q19_4.eq_1) (And.intro (exK_head q19_5.eq_1) (And.intro (exK_head q19_6.eq_1) (And.intro (exK_head q19_7.eq_1) (And.intro (exK_head lb19_0.eq_1) (And.intro (exK_head q19_8.eq_1) (And.intro (exK_head q19_9.eq_1) (exK_head q19_10.eq_1)))))))))))
def ann19:Ann:={ n:=42,own:=[3000003],lv:=[(0,[0]),(1,[0,3]),(2,[3,6,7,8]),(3,[3,6,7,8,9]),(4,[3,5,6,7,8]),(5,[3,5,6,7,8,13]),(6,[3,5,6,7,8,13,14]),(7,[3,6,7,8]),(8,[3,5,6,7,8,27]),(9,[3,6,7,8]),(10,[3,6,7,8]),(11,[2])],lp:=[(3,[3,6,7,8])] }
def fn19:AFn:=AFn.mk 1 [.tmp 2]
 (.seq (.region [
 ob 2 (.mv (.cst (.str [])))] false [0]) q19_10)
theorem ok19:compFn Tryz.prog ann19 Tryz.f19=some fn19:=by kernel_rfl
def q24_0:ACode :=
 (.region [
 ob 38 (.mv (.tmp 9)),
 ob 7 (.mv (.tmp 38))] false [0,2,4,5,6,7,25,26])
def q24_1:ACode :=
 (.seq (.region [
 ob 30 (.mv (.tmp 10)),
 ob 31 (.faddr 0 (.tmp 4)),
 ob 32 (.load1 (.tmp 31)),
 ob 33 (.bin .eql (.tmp 30) (.tmp 32)),
 ob 34 (.mv (.tmp 33)),
 og 35 34 true (.mv (.tmp 9)),
 og 36 34 true (.bin .gtr (.tmp 35) (.cst (.int .i64 0))),
 ob 37 (.pick (.tmp 34) (.tmp 36) (.cst (.bool false)))] false [0,2,4,5,6,7,9,25,26,37]) (.cond (.tmp 37) q24_0 (.skip)))
def q24_2:ACode :=
 (.region [
 ob 39 (.bin .add (.tmp 26) (.cst (.int .i64 1))),
 ob 26 (.mv (.tmp 39))] false [0,2,4,5,6,7,25,26])
def q24_3:ACode :=
 (.seq (.block 1 (.seq (.region [
 ob 28 (.mv (.tmp 26)),
 ob 29 (.indexA 18 (.tmp 25) (.tmp 26)),
 ob 9 (.mv (.tmp 28)),
 ob 10 (.mv (.tmp 29))] false [0,2,4,5,6,7,9,10,25,26]) q24_1)) q24_2)
def q24_4:ACode :=
 (.seq (.cond (.tmp 27) (.skip) (.exit 0)) q24_3)
def lb24_0:ACode :=
 (.seq (.region [
 ob 27 (.bin .lss (.tmp 26) (.cst (.int .i64 18)))] false [0,2,4,5,6,7,25,26,27]) q24_4)
def q24_5:ACode :=
 (.block 0 (.loop [0,2,4,5,6,7,25,26] lb24_0))
def q24_6:ACode :=
 (.seq (.region [
 ob 61 (.build [(.int .i64 0),(.int .i64 0),(.str []),(.str []),(.int .i64 0),(.int .i64 0),(.int .i64 0),(.slice .c0 [])] []),
 ox (.store 8 (.tmp 2) (.tmp 61)),
 ob 3 (.mv (.cst (.int .i64 11)))] false [2,3]) (.ret))
def q24_7:ACode :=
 (.seq (.region [
 ob 62 (.loadA 8 (.tmp 11)),
 ox (.store 8 (.tmp 2) (.tmp 62)),
 ob 3 (.mv (.cst (.int .i64 0)))] false [2,3]) (.ret))
def q24_8:ACode :=
 (.seq (.seq (.region [
 ob 57 (.loadA 8 (.tmp 11)),
 ob 58 (.call 15 [(.tmp 57)]),
 ob 59 (.mv (.tmp 0)),
 ob 60 (.bin .neq (.tmp 58) (.tmp 59))] false [2,11,60]) (.cond (.tmp 60) q24_6 (.skip))) q24_7)
def q24_9:ACode :=
 (.seq (.region [
 ob 40 (.mv (.tmp 7)),
 ob 41 (.mv (.tmp 5)),
 ob 42 (.callV (.tmp 41) [(.cst (.str [99,108,105,101,110,116]))]),
 ob 43 (.mv (.tmp 6)),
 ob 44 (.callV (.tmp 43) [(.cst (.str [112,97,116,104]))]),
 ob 45 (.mv (.tmp 6)),
 ob 46 (.callV (.tmp 45) [(.cst (.str [116,111]))]),
 ob 47 (.mv (.tmp 5)),
 ob 48 (.callV (.tmp 47) [(.cst (.str [110]))]),
 ob 49 (.mv (.tmp 5)),
 ob 50 (.callV (.tmp 49) [(.cst (.str [109]))]),
 ob 51 (.mv (.tmp 5)),
 ob 52 (.callV (.tmp 51) [(.cst (.str [104,97,110,100,108,101]))]),
 ob 53 (.mv (.tmp 6)),
 ob 54 (.callV (.tmp 53) [(.cst (.str [100,97,116,97]))]),
 ob 55 (.s2b (.tmp 54)),
 ob 56 (.build [(.int .i64 0),(.int .i64 0),(.str []),(.str []),(.int .i64 0),(.int .i64 0),(.int .i64 0),(.slice .c0 [])] [(0,1,(.tmp 40)),(1,1,(.tmp 42)),(2,1,(.tmp 44)),(3,1,(.tmp 46)),(4,1,(.tmp 48)),(5,1,(.tmp 50)),(6,1,(.tmp 52)),(7,1,(.tmp 55))]),
 ob 11 (.box0 [(.int .i64 0),(.int .i64 0),(.str []),(.str []),(.int .i64 0),(.int .i64 0),(.int .i64 0),(.slice .c0 [])]),
 ox (.store 8 (.tmp 11) (.tmp 56))] false [0,2,11]) q24_8)
def q24_10:ACode :=
 (.seq (.seq (.region [
 ob 25 (.loadA 18 (.cst (.rptr gv0))),
 ob 26 (.mv (.cst (.int .i64 0)))] false [0,2,4,5,6,7,25,26]) q24_5) q24_9)
def q24_11:ACode :=
 (.seq (.region [
 ob 19 (.faddr 0 (.tmp 4)),
 ob 20 (.load1 (.tmp 19)),
 ob 21 (.call 59 [(.tmp 20),(.cst (.str [111,112]))]),
 ob 22 (.call 58 [(.tmp 21)]),
 ob 18 (.mv (.tmp 22)),
 ob 23 (.extract (.tmp 18) 0),
 ob 24 (.extract (.tmp 18) 1),
 ob 7 (.mv (.tmp 23)),
 ob 8 (.mv (.tmp 24))] false [0,2,4,5,6,7]) q24_10)
def q24_12:ACode :=
 (.seq (.region [
 ob 14 (.loadA 2 (.tmp 4)),
 ob 15 (.bindF 56 [(.tmp 14)]),
 ob 16 (.loadA 2 (.tmp 4)),
 ob 17 (.bindF 57 [(.tmp 16)]),
 ob 5 (.mv (.tmp 15)),
 ob 6 (.mv (.tmp 17))] true [0,2,4,5,6]) q24_11)
def q24_13:ACode :=
 (.seq (.region [
 ob 12 (.mv (.tmp 0)),
 ob 13 (.call 55 [(.tmp 12)]),
 ob 4 (.box0 [(.str []),(.slice .c0 [])]),
 ox (.store 2 (.tmp 4) (.tmp 13))] false [0,2,4]) q24_12)
def E24:=And.intro (exK_head q24_0.eq_1) (And.intro (exK_head q24_1.eq_1) (And.intro (exK_head q24_2.eq_1) (And.intro (exK_head q24_3.eq_1) (And.intro (exK_head q24_4.eq_1) (And.intro (exK_head lb24_0.eq_1) (And.intro (exK_head q24_5.eq_1) (And.intro (exK_head q24_6.eq_1) (And.intro (exK_head q24_7.eq_1) (And.intro (exK_head q24_8.eq_1) (And.intro (exK_head q24_9.eq_1) (And.intro (exK_head q24_10.eq_1) (And.intro (exK_head q24_11.eq_1) (And.intro (exK_head q24_12.eq_1) (exK_head q24_13.eq_1))))))))))))))
def ann24:Ann:={ n:=63,own:=[],lv:=[(0,[0,2]),(1,[0,2,4]),(2,[0,2,4,5,6]),(3,[0,2,4,5,6,7]),(4,[0,2,4,5,6,7,25,26]),(5,[0,2,4,5,6,7,25,26,27]),(6,[0,2,4,5,6,7,9,10,25,26]),(7,[0,2,4,5,6,7,9,25,26,37]),(8,[0,2,4,5,6,7,25,26]),(9,[0,2,4,5,6,7,25,26]),(10,[0,2,11]),(11,[2,11,60]),(12,[2,3]),(13,[2,3])],lp:=[(5,[0,2,4,5,6,7,25,26])] }
def fn24:AFn:=AFn.mk 1 [.cellA 2 8,.tmp 3]
 (.seq (.region [
 ob 2 (.box0 [(.int .i64 0),(.int .i64 0),(.str []),(.str []),(.int .i64 0),(.int .i64 0),(.int .i64 0),(.slice .c0 [])]),
 ob 3 (.mv (.cst (.int .i64 0)))] false [0,2]) q24_13)
theorem ok24:compFn Tryz.prog ann24 Tryz.f24=some fn24:=by kernel_rfl
def q26_0:ACode :=
 (.region [
 ob 51 (.faddr 5 (.tmp 8)),
 ob 52 (.load1 (.tmp 51)),
 ob 53 (.mv (.tmp 12)),
 ⟨(some 54),.call 65 [(.tmp 53)],none,true,false,[]⟩,
 ob 55 (.lits 1 [(.tmp 54)]),
 ob 56 (.append 1 16 (.tmp 52) (.tmp 55)),
 ob 57 (.faddr 5 (.tmp 8)),
 ox (.store 1 (.tmp 57) (.tmp 56))] true [0,2,8,45,46,47])
def q26_1:ACode :=
 (.region [
 ob 58 (.bin .add (.tmp 47) (.cst (.int .i64 1))),
 ob 47 (.mv (.tmp 58))] false [0,2,8,45,46,47])
def q26_2:ACode :=
 (.seq (.block 1 (.seq (.region [
 ob 49 (.iaddr 1 (.tmp 45) (.tmp 47)),
 ob 50 (.load1 (.tmp 49)),
 ob 12 (.mv (.tmp 50))] false [0,2,8,12,45,46,47]) q26_0)) q26_1)
def q26_3:ACode :=
 (.seq (.cond (.tmp 48) (.skip) (.exit 0)) q26_2)
def lb26_0:ACode :=
 (.seq (.region [
 ob 48 (.bin .lss (.tmp 47) (.tmp 46))] false [0,2,8,45,46,47,48]) q26_3)
def q26_4:ACode :=
 (.block 0 (.loop [0,2,8,45,46,47] lb26_0))
def q26_5:ACode :=
 (.seq (.region [
 ob 43 (.faddr 2 (.tmp 9)),
 ob 44 (.load1 (.tmp 43)),
 ob 45 (.call 64 [(.tmp 44),(.cst (.str [44]))]),
 ob 46 (.lenV (.tmp 45)),
 ob 47 (.mv (.cst (.int .i64 0)))] false [0,2,8,45,46,47]) q26_4)
def q26_6:ACode :=
 (.seq (.region [
 ob 42 (.mv (.tmp 10))] false [0,2,8,9,42]) (.cond (.tmp 42) q26_5 (.skip)))
def q26_7:ACode :=
 (.seq (.region [
 ob 63 (.build [(.int .i64 0),(.int .i64 0),(.int .i64 0),(.int .i64 0),(.int .i64 0),(.slice .c0 []),(.slice .c0 [])] []),
 ox (.store 7 (.tmp 2) (.tmp 63)),
 ob 3 (.mv (.cst (.int .i64 11)))] false [2,3]) (.ret))
def q26_8:ACode :=
 (.seq (.region [
 ob 64 (.loadA 7 (.tmp 8)),
 ox (.store 7 (.tmp 2) (.tmp 64)),
 ob 3 (.mv (.cst (.int .i64 0)))] false [2,3]) (.ret))
def q26_9:ACode :=
 (.seq (.seq (.region [
 ob 59 (.loadA 7 (.tmp 8)),
 ob 60 (.call 17 [(.tmp 59)]),
 ob 61 (.mv (.tmp 0)),
 ob 62 (.bin .neq (.tmp 60) (.tmp 61))] false [2,8,62]) (.cond (.tmp 62) q26_7 (.skip))) q26_8)
def q26_10:ACode :=
 (.seq (.seq (.region [
 ob 38 (.loadA 2 (.tmp 4)),
 ob 39 (.call 63 [(.tmp 38),(.cst (.str [110,97,109,101,115]))]),
 ob 37 (.mv (.tmp 39)),
 ob 40 (.extract (.tmp 37) 0),
 ob 41 (.extract (.tmp 37) 1),
 ob 9 (.box0 [(.str []),(.int .i64 0),(.str [])]),
 ox (.store 3 (.tmp 9) (.tmp 40)),
 ob 10 (.mv (.tmp 41))] false [0,2,8,9,10]) q26_6) q26_9)
def q26_11:ACode :=
 (.seq (.region [
 ob 24 (.mv (.tmp 6)),
 ob 25 (.mv (.tmp 5)),
 ⟨(some 26),.callV (.tmp 25) [(.cst (.str [105,110,111]))],none,false,true,[]⟩,
 ob 27 (.mv (.tmp 5)),
 ⟨(some 28),.callV (.tmp 27) [(.cst (.str [107,105,110,100]))],none,false,true,[]⟩,
 ob 29 (.mv (.tmp 5)),
 ⟨(some 30),.callV (.tmp 29) [(.cst (.str [110]))],none,false,true,[]⟩,
 ob 31 (.mv (.tmp 5)),
 ⟨(some 32),.callV (.tmp 31) [(.cst (.str [109]))],none,false,true,[]⟩,
 ob 33 (.loadA 2 (.tmp 4)),
 ⟨(some 34),.call 57 [(.tmp 33),(.cst (.str [100,97,116,97]))],none,false,true,[]⟩,
 ob 35 (.s2b (.tmp 34)),
 ob 36 (.build [(.int .i64 0),(.int .i64 0),(.int .i64 0),(.int .i64 0),(.int .i64 0),(.slice .c0 []),(.slice .c0 [])] [(0,1,(.tmp 24)),(1,1,(.tmp 26)),(2,1,(.tmp 28)),(3,1,(.tmp 30)),(4,1,(.tmp 32)),(6,1,(.tmp 35))]),
 ⟨(some 8),.box0 [(.int .i64 0),(.int .i64 0),(.int .i64 0),(.int .i64 0),(.int .i64 0),(.slice .c0 []),(.slice .c0 [])],none,true,false,[]⟩,
 ox (.storeO 1 5 7 (.tmp 8) (.tmp 36))] true [0,2,4,8]) q26_10)
def q26_12:ACode :=
 (.seq (.region [
 ob 18 (.faddr 0 (.tmp 4)),
 ob 19 (.load1 (.tmp 18)),
 ob 20 (.call 59 [(.tmp 19),(.cst (.str [101,114,114,111,114]))]),
 ob 21 (.call 58 [(.tmp 20)]),
 ob 17 (.mv (.tmp 21)),
 ob 22 (.extract (.tmp 17) 0),
 ob 23 (.extract (.tmp 17) 1),
 ob 6 (.mv (.tmp 22)),
 ob 7 (.mv (.tmp 23))] false [0,2,4,5,6]) q26_11)
def q26_13:ACode :=
 (.seq (.region [
 ob 15 (.loadA 2 (.tmp 4)),
 ob 16 (.bindF 56 [(.tmp 15)]),
 ob 5 (.mv (.tmp 16))] false [0,2,4,5]) q26_12)
def q26_14:ACode :=
 (.seq (.region [
 ob 13 (.mv (.tmp 0)),
 ob 14 (.call 55 [(.tmp 13)]),
 ob 4 (.box0 [(.str []),(.slice .c0 [])]),
 ox (.store 2 (.tmp 4) (.tmp 14))] false [0,2,4]) q26_13)
def E26:=And.intro (exK_head q26_0.eq_1) (And.intro (exK_head q26_1.eq_1) (And.intro (exK_head q26_2.eq_1) (And.intro (exK_head q26_3.eq_1) (And.intro (exK_head lb26_0.eq_1) (And.intro (exK_head q26_4.eq_1) (And.intro (exK_head q26_5.eq_1) (And.intro (exK_head q26_6.eq_1) (And.intro (exK_head q26_7.eq_1) (And.intro (exK_head q26_8.eq_1) (And.intro (exK_head q26_9.eq_1) (And.intro (exK_head q26_10.eq_1) (And.intro (exK_head q26_11.eq_1) (And.intro (exK_head q26_12.eq_1) (And.intro (exK_head q26_13.eq_1) (exK_head q26_14.eq_1)))))))))))))))
def ann26:Ann:={ n:=65,own:=[1001005008],lv:=[(0,[0,2]),(1,[0,2,4]),(2,[0,2,4,5]),(3,[0,2,4,5,6]),(4,[0,2,4,8]),(5,[0,2,8,9,10]),(6,[0,2,8,9,42]),(7,[0,2,8,45,46,47]),(8,[0,2,8,45,46,47,48]),(9,[0,2,8,12,45,46,47]),(10,[0,2,8,45,46,47]),(11,[0,2,8,45,46,47]),(12,[2,8,62]),(13,[2,3]),(14,[2,3])],lp:=[(8,[0,2,8,45,46,47])] }
def fn26:AFn:=AFn.mk 1 [.cellA 2 7,.tmp 3]
 (.seq (.region [
 ob 2 (.box0 [(.int .i64 0),(.int .i64 0),(.int .i64 0),(.int .i64 0),(.int .i64 0),(.slice .c0 []),(.slice .c0 [])]),
 ob 3 (.mv (.cst (.int .i64 0)))] false [0,2]) q26_14)
theorem ok26:compFn Tryz.prog ann26 Tryz.f26=some fn26:=by kernel_rfl
def q43_0:ACode :=
 (.region [
 ob 20 (.faddr 0 (.tmp 7)),
 ob 21 (.load1 (.tmp 20)),
 ob 22 (.bin .add (.cst (.str [32])) (.tmp 21)),
 ob 23 (.bin .add (.tmp 22) (.cst (.str [61]))),
 ob 24 (.faddr 1 (.tmp 7)),
 ob 25 (.load1 (.tmp 24)),
 ⟨(some 26),.call 42 [(.tmp 25)],none,true,false,[]⟩,
 ob 27 (.bin .add (.tmp 23) (.tmp 26)),
 ob 28 (.call 50 [(.tmp 5),(.tmp 27)])] true [5,10,11,12])
def q43_1:ACode :=
 (.region [
 ob 33 (.faddr 0 (.tmp 7)),
 ob 34 (.load1 (.tmp 33)),
 ob 35 (.bin .add (.cst (.str [32])) (.tmp 34)),
 ob 36 (.bin .add (.tmp 35) (.cst (.str [61]))),
 ob 37 (.faddr 2 (.tmp 7)),
 ob 38 (.load1 (.tmp 37)),
 ob 39 (.bin .add (.tmp 36) (.tmp 38)),
 ob 40 (.call 50 [(.tmp 5),(.tmp 39)])] false [5,10,11,12])
def q43_2:ACode :=
 (.seq (.region [
 ob 30 (.faddr 2 (.tmp 7)),
 ob 31 (.load1 (.tmp 30)),
 ob 32 (.bin .neq (.tmp 31) (.cst (.str []))),
 ob 29 (.mv (.tmp 32))] false [5,7,10,11,12,29]) (.cond (.tmp 29) q43_1 (.skip)))
def q43_3:ACode :=
 (.block 2 (.seq (.region [
 ob 17 (.faddr 1 (.tmp 7)),
 ob 18 (.load1 (.tmp 17)),
 ob 19 (.bin .neq (.tmp 18) (.cst (.int .i64 0))),
 ob 16 (.mv (.tmp 19))] false [5,7,10,11,12,16]) (.cond (.tmp 16) q43_0 q43_2)))
def q43_4:ACode :=
 (.region [
 ob 41 (.bin .add (.tmp 12) (.cst (.int .i64 1))),
 ob 12 (.mv (.tmp 41))] false [5,10,11,12])
def q43_5:ACode :=
 (.seq (.block 1 (.seq (.region [
 ob 14 (.iaddr 3 (.tmp 10) (.tmp 12)),
 ob 15 (.loadA 3 (.tmp 14)),
 ob 7 (.box0 [(.str []),(.int .i64 0),(.str [])]),
 ox (.store 3 (.tmp 7) (.tmp 15))] false [5,7,10,11,12]) q43_3)) q43_4)
def q43_6:ACode :=
 (.seq (.cond (.tmp 13) (.skip) (.exit 0)) q43_5)
def lb43_0:ACode :=
 (.seq (.region [
 ob 13 (.bin .lss (.tmp 12) (.tmp 11))] false [5,10,11,12,13]) q43_6)
def q43_7:ACode :=
 (.seq (.region [
 ob 42 (.call 51 [(.tmp 5)]),
 ob 4 (.mv (.tmp 42))] false [4]) (.ret))
def q43_8:ACode :=
 (.seq (.seq (.region [
 ob 10 (.mv (.tmp 1)),
 ob 11 (.lenV (.tmp 10)),
 ob 12 (.mv (.cst (.int .i64 0)))] false [5,10,11,12]) (.block 0 (.loop [5,10,11,12] lb43_0))) q43_7)
def q43_9:ACode :=
 (.seq (.region [
 ob 8 (.mv (.tmp 0)),
 ob 9 (.call 50 [(.tmp 5),(.tmp 8)])] false [1,5]) q43_8)
def q43_10:ACode :=
 (.seq (.region [
 ob 5 (.boxO 87 5 [(.raw (.pointer none)),(.slice .c0 [])])] false [0,1,5]) q43_9)
def E43:=And.intro (exK_head q43_0.eq_1) (And.intro (exK_head q43_1.eq_1) (And.intro (exK_head q43_2.eq_1) (And.intro (exK_head q43_3.eq_1) (And.intro (exK_head q43_4.eq_1) (And.intro (exK_head q43_5.eq_1) (And.intro (exK_head q43_6.eq_1) (And.intro (exK_head lb43_0.eq_1) (And.intro (exK_head q43_7.eq_1) (And.intro (exK_head q43_8.eq_1) (And.intro (exK_head q43_9.eq_1) (exK_head q43_10.eq_1)))))))))))
def ann43:Ann:={ n:=43,own:=[3000005],lv:=[(0,[0,1]),(1,[0,1,5]),(2,[1,5]),(3,[5,10,11,12]),(4,[5,10,11,12,13]),(5,[5,7,10,11,12]),(6,[5,7,10,11,12,16]),(7,[5,10,11,12]),(8,[5,7,10,11,12,29]),(9,[5,10,11,12]),(10,[5,10,11,12]),(11,[4])],lp:=[(4,[5,10,11,12])] }
def fn43:AFn:=AFn.mk 2 [.tmp 4]
 (.seq (.region [
 ob 4 (.mv (.cst (.str [])))] false [0,1]) q43_10)
theorem ok43:compFn Tryz.prog ann43 Tryz.f43=some fn43:=by kernel_rfl
def q44_0:ACode :=
 (.region [
 ob 16 (.mv (.tmp 5)),
 ob 17 (.call 89 [(.tmp 3),(.tmp 16)])] false [0,3,7,8])
def q44_1:ACode :=
 (.region [
 ob 18 (.mv (.tmp 5)),
 ob 19 (.bin .shr (.tmp 18) (.cst (.int .u64 4))),
 ob 20 (.mv (.tmp 5)),
 ob 21 (.bin .shr (.tmp 20) (.cst (.int .u64 4))),
 ob 22 (.bin .add (.tmp 21) (.cst (.int .u8 1))),
 ob 23 (.sliceS (.cst (.str [48,49,50,51,52,53,54,55,56,57,97,98,99,100,101,102])) (some (.tmp 19)) (some (.tmp 22))),
 ob 24 (.bin .add (.cst (.str [37])) (.tmp 23)),
 ob 25 (.mv (.tmp 5)),
 ob 26 (.bin .and (.tmp 25) (.cst (.int .u8 15))),
 ob 27 (.mv (.tmp 5)),
 ob 28 (.bin .and (.tmp 27) (.cst (.int .u8 15))),
 ob 29 (.bin .add (.tmp 28) (.cst (.int .u8 1))),
 ob 30 (.sliceS (.cst (.str [48,49,50,51,52,53,54,55,56,57,97,98,99,100,101,102])) (some (.tmp 26)) (some (.tmp 29))),
 ob 31 (.bin .add (.tmp 24) (.tmp 30)),
 ob 32 (.call 50 [(.tmp 3),(.tmp 31)])] true [0,3,7,8])
def q44_2:ACode :=
 (.seq (.region [
 ob 14 (.mv (.tmp 5)),
 ob 15 (.call 88 [(.tmp 14)])] false [0,3,5,7,8,15]) (.cond (.tmp 15) q44_0 q44_1))
def q44_3:ACode :=
 (.seq (.region [
 ob 11 (.mv (.tmp 0)),
 ob 12 (.mv (.tmp 4)),
 ob 13 (.indexS (.tmp 11) (.tmp 12)),
 ob 5 (.mv (.tmp 13))] false [0,3,5,7,8]) q44_2)
def q44_4:ACode :=
 (.region [
 ob 33 (.bin .add (.tmp 8) (.cst (.int .i64 1))),
 ob 8 (.mv (.tmp 33))] false [0,3,7,8])
def q44_5:ACode :=
 (.seq (.block 1 (.seq (.region [
 ob 10 (.mv (.tmp 8)),
 ob 4 (.mv (.tmp 10))] false [0,3,4,7,8]) q44_3)) q44_4)
def q44_6:ACode :=
 (.seq (.cond (.tmp 9) (.skip) (.exit 0)) q44_5)
def lb44_0:ACode :=
 (.seq (.region [
 ob 9 (.bin .lss (.tmp 8) (.tmp 7))] false [0,3,7,8,9]) q44_6)
def q44_7:ACode :=
 (.seq (.region [
 ob 34 (.call 51 [(.tmp 3)]),
 ob 2 (.mv (.tmp 34))] false [2]) (.ret))
def q44_8:ACode :=
 (.seq (.seq (.region [
 ob 6 (.mv (.tmp 0)),
 ob 7 (.lenS (.tmp 6)),
 ob 8 (.mv (.cst (.int .i64 0)))] false [0,3,7,8]) (.block 0 (.loop [0,3,7,8] lb44_0))) q44_7)
def q44_9:ACode :=
 (.seq (.region [
 ob 3 (.boxO 87 5 [(.raw (.pointer none)),(.slice .c0 [])])] false [0,3]) q44_8)
def E44:=And.intro (exK_head q44_0.eq_1) (And.intro (exK_head q44_1.eq_1) (And.intro (exK_head q44_2.eq_1) (And.intro (exK_head q44_3.eq_1) (And.intro (exK_head q44_4.eq_1) (And.intro (exK_head q44_5.eq_1) (And.intro (exK_head q44_6.eq_1) (And.intro (exK_head lb44_0.eq_1) (And.intro (exK_head q44_7.eq_1) (And.intro (exK_head q44_8.eq_1) (exK_head q44_9.eq_1))))))))))
def ann44:Ann:={ n:=35,own:=[3000003],lv:=[(0,[0]),(1,[0,3]),(2,[0,3,7,8]),(3,[0,3,7,8,9]),(4,[0,3,4,7,8]),(5,[0,3,5,7,8]),(6,[0,3,5,7,8,15]),(7,[0,3,7,8]),(8,[0,3,7,8]),(9,[0,3,7,8]),(10,[2])],lp:=[(3,[0,3,7,8])] }
def fn44:AFn:=AFn.mk 1 [.tmp 2]
 (.seq (.region [
 ob 2 (.mv (.cst (.str [])))] false [0]) q44_9)
theorem ok44:compFn Tryz.prog ann44 Tryz.f44=some fn44:=by kernel_rfl
def q50_0:ACode :=
 (.seq (.region [
 ob 17 (.mv (.tmp 1)),
 ob 18 (.lenS (.tmp 17)),
 ob 4 (.mv (.tmp 18)),
 ob 5 (.mv (.cst (.raw .nilIface)))] false [4,5]) (.ret))
def q50_1:ACode :=
 (.seq (.region [
 ob 8 (.mv (.tmp 0)),
 ob 9 (.mv (.tmp 0)),
 ob 10 (.chk (.tmp 9)),
 ob 11 (.faddr 1 (.tmp 10)),
 ob 12 (.load1 (.tmp 11)),
 ob 13 (.mv (.tmp 1)),
 ob 14 (.appendS 5 (.tmp 12) (.tmp 13)),
 ob 15 (.chk (.tmp 8)),
 ob 16 (.faddr 1 (.tmp 15)),
 ox (.store 1 (.tmp 16) (.tmp 14))] false [1]) q50_0)
def q50_2:ACode :=
 (.seq (.region [
 ob 6 (.mv (.tmp 0)),
 ob 7 (.call 91 [(.tmp 6)])] false [0,1]) q50_1)
def E50:=And.intro (exK_head q50_0.eq_1) (And.intro (exK_head q50_1.eq_1) (exK_head q50_2.eq_1))
def ann50:Ann:={ n:=19,own:=[4000000],lv:=[(0,[0,1]),(1,[0,1]),(2,[1]),(3,[4,5])],lp:=[] }
def fn50:AFn:=AFn.mk 2 [.tmp 4,.tmp 5]
 (.seq (.region [
 ob 4 (.mv (.cst (.int .i64 0))),
 ob 5 (.mv (.cst (.raw .nilIface)))] false [0,1]) q50_2)
theorem ok50:compFn Tryz.prog ann50 Tryz.f50=some fn50:=by kernel_rfl
def q55_0:ACode :=
 (.region [
 ob 36 (.faddr 1 (.tmp 4)),
 ob 37 (.load1 (.tmp 36)),
 ob 38 (.mv (.tmp 7)),
 ob 39 (.mv (.tmp 10)),
 ob 40 (.mv (.tmp 8)),
 ob 41 (.build [(.str []),(.int .i64 0),(.str [])] [(0,1,(.tmp 38)),(1,1,(.tmp 39)),(2,1,(.tmp 40))]),
 ob 42 (.lits 3 [(.tmp 41)]),
 ob 43 (.append 3 40 (.tmp 37) (.tmp 42)),
 ob 44 (.faddr 1 (.tmp 4)),
 ox (.store 1 (.tmp 44) (.tmp 43))] false [2,4,19,20,21])
def q55_1:ACode :=
 (.seq (.region [
 ob 32 (.mv (.tmp 8)),
 ob 33 (.call 58 [(.tmp 32)]),
 ob 31 (.mv (.tmp 33)),
 ob 34 (.extract (.tmp 31) 0),
 ob 35 (.extract (.tmp 31) 1),
 ob 10 (.mv (.tmp 34)),
 ob 11 (.mv (.tmp 35))] false [2,4,7,8,10,19,20,21]) q55_0)
def q55_2:ACode :=
 (.seq (.region [
 ob 26 (.mv (.tmp 6)),
 ob 27 (.call 93 [(.tmp 26),(.cst (.str [61]))]),
 ob 25 (.mv (.tmp 27)),
 ob 28 (.extract (.tmp 25) 0),
 ob 29 (.extract (.tmp 25) 1),
 ob 30 (.extract (.tmp 25) 2),
 ob 7 (.mv (.tmp 28)),
 ob 8 (.mv (.tmp 29)),
 ob 9 (.mv (.tmp 30))] false [2,4,7,8,19,20,21]) q55_1)
def q55_3:ACode :=
 (.region [
 ob 45 (.bin .add (.tmp 21) (.cst (.int .i64 1))),
 ob 21 (.mv (.tmp 45))] false [2,4,19,20,21])
def q55_4:ACode :=
 (.seq (.block 1 (.seq (.region [
 ob 23 (.iaddr 1 (.tmp 19) (.tmp 21)),
 ob 24 (.load1 (.tmp 23)),
 ob 6 (.mv (.tmp 24))] false [2,4,6,19,20,21]) q55_2)) q55_3)
def q55_5:ACode :=
 (.seq (.cond (.tmp 22) (.skip) (.exit 0)) q55_4)
def lb55_0:ACode :=
 (.seq (.region [
 ob 22 (.bin .lss (.tmp 21) (.tmp 20))] false [2,4,19,20,21,22]) q55_5)
def q55_6:ACode :=
 (.block 0 (.loop [2,4,19,20,21] lb55_0))
def q55_7:ACode :=
 (.seq (.region [
 ob 46 (.loadA 2 (.tmp 4)),
 ox (.store 2 (.tmp 2) (.tmp 46))] false [2]) (.ret))
def q55_8:ACode :=
 (.seq (.seq (.region [
 ob 18 (.mv (.tmp 3)),
 ob 19 (.sliceV 1 (.tmp 18) (some (.cst (.int .i64 1))) none none),
 ob 20 (.lenV (.tmp 19)),
 ob 21 (.mv (.cst (.int .i64 0)))] false [2,4,19,20,21]) q55_6) q55_7)
def q55_9:ACode :=
 (.seq (.region [
 ob 14 (.mv (.tmp 3)),
 ob 15 (.iaddr 1 (.tmp 14) (.cst (.int .i64 0))),
 ob 16 (.load1 (.tmp 15)),
 ob 17 (.build [(.str []),(.slice .c0 [])] [(0,1,(.tmp 16))]),
 ob 4 (.box0 [(.str []),(.slice .c0 [])]),
 ox (.storeO 3 1 2 (.tmp 4) (.tmp 17))] false [2,3,4]) q55_8)
def q55_10:ACode :=
 (.seq (.region [
 ob 12 (.mv (.tmp 0)),
 ob 13 (.call 64 [(.tmp 12),(.cst (.str [32]))]),
 ob 3 (.mv (.tmp 13))] false [2,3]) q55_9)
def E55:=And.intro (exK_head q55_0.eq_1) (And.intro (exK_head q55_1.eq_1) (And.intro (exK_head q55_2.eq_1) (And.intro (exK_head q55_3.eq_1) (And.intro (exK_head q55_4.eq_1) (And.intro (exK_head q55_5.eq_1) (And.intro (exK_head lb55_0.eq_1) (And.intro (exK_head q55_6.eq_1) (And.intro (exK_head q55_7.eq_1) (And.intro (exK_head q55_8.eq_1) (And.intro (exK_head q55_9.eq_1) (exK_head q55_10.eq_1)))))))))))
def ann55:Ann:={ n:=47,own:=[1003001004],lv:=[(0,[0,2]),(1,[2,3]),(2,[2,3,4]),(3,[2,4,19,20,21]),(4,[2,4,19,20,21,22]),(5,[2,4,6,19,20,21]),(6,[2,4,7,8,19,20,21]),(7,[2,4,7,8,10,19,20,21]),(8,[2,4,19,20,21]),(9,[2,4,19,20,21]),(10,[2])],lp:=[(4,[2,4,19,20,21])] }
def fn55:AFn:=AFn.mk 1 [.cellA 2 2]
 (.seq (.region [
 ob 2 (.box0 [(.str []),(.slice .c0 [])])] false [0,2]) q55_10)
theorem ok55:compFn Tryz.prog ann55 Tryz.f55=some fn55:=by kernel_rfl
def q56_0:ACode :=
 (.seq (.region [
 ob 13 (.faddr 1 (.tmp 5)),
 ob 14 (.load1 (.tmp 13)),
 ob 4 (.mv (.tmp 14))] false [4]) (.ret))
def q56_1:ACode :=
 (.seq (.region [
 ob 8 (.loadA 2 (.tmp 2)),
 ob 9 (.mv (.tmp 1)),
 ob 10 (.call 63 [(.tmp 8),(.tmp 9)]),
 ob 7 (.mv (.tmp 10)),
 ob 11 (.extract (.tmp 7) 0),
 ob 12 (.extract (.tmp 7) 1),
 ob 5 (.box0 [(.str []),(.int .i64 0),(.str [])]),
 ox (.store 3 (.tmp 5) (.tmp 11)),
 ob 6 (.mv (.tmp 12))] false [5]) q56_0)
def E56:=And.intro (exK_head q56_0.eq_1) (exK_head q56_1.eq_1)
def ann56:Ann:={ n:=15,own:=[],lv:=[(0,[1,2]),(1,[5]),(2,[4])],lp:=[] }
def fn56:AFn:=AFn.mk 2 [.tmp 4]
 (.seq (.region [
 ob 2 (.box (.tmp 0)),
 ob 4 (.mv (.cst (.int .i64 0)))] false [1,2]) q56_1)
theorem ok56:compFn Tryz.prog ann56 Tryz.f56=some fn56:=by kernel_rfl
def q57_0:ACode :=
 (.seq (.region [
 ob 13 (.faddr 2 (.tmp 5)),
 ob 14 (.load1 (.tmp 13)),
 ob 15 (.call 65 [(.tmp 14)]),
 ob 4 (.mv (.tmp 15))] false [4]) (.ret))
def q57_1:ACode :=
 (.seq (.region [
 ob 8 (.loadA 2 (.tmp 2)),
 ob 9 (.mv (.tmp 1)),
 ob 10 (.call 63 [(.tmp 8),(.tmp 9)]),
 ob 7 (.mv (.tmp 10)),
 ob 11 (.extract (.tmp 7) 0),
 ob 12 (.extract (.tmp 7) 1),
 ob 5 (.box0 [(.str []),(.int .i64 0),(.str [])]),
 ox (.store 3 (.tmp 5) (.tmp 11)),
 ob 6 (.mv (.tmp 12))] false [5]) q57_0)
def E57:=And.intro (exK_head q57_0.eq_1) (exK_head q57_1.eq_1)
def ann57:Ann:={ n:=16,own:=[],lv:=[(0,[1,2]),(1,[5]),(2,[4])],lp:=[] }
def fn57:AFn:=AFn.mk 2 [.tmp 4]
 (.seq (.region [
 ob 2 (.box (.tmp 0)),
 ob 4 (.mv (.cst (.str [])))] false [1,2]) q57_1)
theorem ok57:compFn Tryz.prog ann57 Tryz.f57=some fn57:=by kernel_rfl
def q59_0:ACode :=
 (.seq (.region [
 ob 5 (.mv (.tmp 0)),
 ob 6 (.mv (.tmp 1)),
 ob 7 (.call 96 [(.tmp 5),(.tmp 6)]),
 ob 4 (.mv (.tmp 7))] false [4]) (.ret))
def E59:=exK_head q59_0.eq_1
def ann59:Ann:={ n:=8,own:=[],lv:=[(0,[0,1]),(1,[4])],lp:=[] }
def fn59:AFn:=AFn.mk 2 [.tmp 4]
 (.seq (.region [
 ob 4 (.mv (.cst (.str [])))] false [0,1]) q59_0)
theorem ok59:compFn Tryz.prog ann59 Tryz.f59=some fn59:=by kernel_rfl
def q63_0:ACode :=
 (.seq (.region [
 ob 19 (.loadA 3 (.tmp 7)),
 ox (.store 3 (.tmp 4) (.tmp 19)),
 ob 5 (.mv (.cst (.bool true)))] false [4,5]) (.ret))
def q63_1:ACode :=
 (.seq (.region [
 ob 15 (.faddr 0 (.tmp 7)),
 ob 16 (.load1 (.tmp 15)),
 ob 17 (.mv (.tmp 1)),
 ob 18 (.bin .eql (.tmp 16) (.tmp 17))] false [1,4,7,9,10,11,18]) (.cond (.tmp 18) q63_0 (.skip)))
def q63_2:ACode :=
 (.region [
 ob 20 (.bin .add (.tmp 11) (.cst (.int .i64 1))),
 ob 11 (.mv (.tmp 20))] false [1,4,9,10,11])
def q63_3:ACode :=
 (.seq (.block 1 (.seq (.region [
 ob 13 (.iaddr 3 (.tmp 9) (.tmp 11)),
 ob 14 (.loadA 3 (.tmp 13)),
 ob 7 (.box0 [(.str []),(.int .i64 0),(.str [])]),
 ox (.store 3 (.tmp 7) (.tmp 14))] false [1,4,7,9,10,11]) q63_1)) q63_2)
def q63_4:ACode :=
 (.seq (.cond (.tmp 12) (.skip) (.exit 0)) q63_3)
def lb63_0:ACode :=
 (.seq (.region [
 ob 12 (.bin .lss (.tmp 11) (.tmp 10))] false [1,4,9,10,11,12]) q63_4)
def q63_5:ACode :=
 (.block 0 (.loop [1,4,9,10,11] lb63_0))
def q63_6:ACode :=
 (.seq (.region [
 ob 21 (.build [(.str []),(.int .i64 0),(.str [])] []),
 ox (.store 3 (.tmp 4) (.tmp 21)),
 ob 5 (.mv (.cst (.bool false)))] false [4,5]) (.ret))
def q63_7:ACode :=
 (.seq (.seq (.region [
 ob 8 (.faddr 1 (.tmp 2)),
 ob 9 (.load1 (.tmp 8)),
 ob 10 (.lenV (.tmp 9)),
 ob 11 (.mv (.cst (.int .i64 0)))] false [1,4,9,10,11]) q63_5) q63_6)
def E63:=And.intro (exK_head q63_0.eq_1) (And.intro (exK_head q63_1.eq_1) (And.intro (exK_head q63_2.eq_1) (And.intro (exK_head q63_3.eq_1) (And.intro (exK_head q63_4.eq_1) (And.intro (exK_head lb63_0.eq_1) (And.intro (exK_head q63_5.eq_1) (And.intro (exK_head q63_6.eq_1) (exK_head q63_7.eq_1))))))))
def ann63:Ann:={ n:=22,own:=[],lv:=[(0,[1,2,4]),(1,[1,4,9,10,11]),(2,[1,4,9,10,11,12]),(3,[1,4,7,9,10,11]),(4,[1,4,7,9,10,11,18]),(5,[4,5]),(6,[1,4,9,10,11]),(7,[4,5])],lp:=[(2,[1,4,9,10,11])] }
def fn63:AFn:=AFn.mk 2 [.cellA 4 3,.tmp 5]
 (.seq (.region [
 ob 2 (.box (.tmp 0)),
 ob 4 (.box0 [(.str []),(.int .i64 0),(.str [])]),
 ob 5 (.mv (.cst (.bool false)))] false [1,2,4]) q63_7)
theorem ok63:compFn Tryz.prog ann63 Tryz.f63=some fn63:=by kernel_rfl
def q65_0:ACode :=
 (.region [
 ob 38 (.mv (.tmp 4)),
 ob 39 (.bin .add (.tmp 38) (.cst (.int .i64 2))),
 ob 4 (.mv (.tmp 39))] false [0,3,4,5])
def q65_1:ACode :=
 (.seq (.region [
 ob 24 (.mv (.tmp 0)),
 ob 25 (.mv (.tmp 4)),
 ob 26 (.bin .add (.tmp 25) (.cst (.int .i64 1))),
 ob 27 (.indexS (.tmp 24) (.tmp 26)),
 ob 28 (.call 98 [(.cst (.str [48,49,50,51,52,53,54,55,56,57,97,98,99,100,101,102])),(.tmp 27)]),
 ob 29 (.bin .shl (.tmp 28) (.cst (.int .u64 4))),
 ob 30 (.mv (.tmp 0)),
 ob 31 (.mv (.tmp 4)),
 ob 32 (.bin .add (.tmp 31) (.cst (.int .i64 2))),
 ob 33 (.indexS (.tmp 30) (.tmp 32)),
 ob 34 (.call 98 [(.cst (.str [48,49,50,51,52,53,54,55,56,57,97,98,99,100,101,102])),(.tmp 33)]),
 ob 35 (.bin .and (.tmp 34) (.cst (.int .i64 15))),
 ob 36 (.bin .or (.tmp 29) (.tmp 35)),
 ob 37 (.conv .u8 (.tmp 36)),
 ob 5 (.mv (.tmp 37))] true [0,3,4,5]) q65_0)
def q65_2:ACode :=
 (.region [
 ob 40 (.mv (.tmp 3)),
 ob 41 (.mv (.tmp 5)),
 ob 42 (.lits 1 [(.tmp 41)]),
 ob 43 (.append 1 1 (.tmp 40) (.tmp 42)),
 ob 3 (.mv (.tmp 43))] false [0,3,4])
def q65_3:ACode :=
 (.seq (.seq (.region [
 ob 15 (.mv (.tmp 5)),
 ob 16 (.bin .eql (.tmp 15) (.cst (.int .u8 37))),
 ob 17 (.mv (.tmp 16)),
 og 18 17 true (.mv (.tmp 4)),
 og 19 17 true (.bin .add (.tmp 18) (.cst (.int .i64 2))),
 og 20 17 true (.mv (.tmp 0)),
 og 21 17 true (.lenS (.tmp 20)),
 og 22 17 true (.bin .lss (.tmp 19) (.tmp 21)),
 ob 23 (.pick (.tmp 17) (.tmp 22) (.cst (.bool false)))] false [0,3,4,5,23]) (.cond (.tmp 23) q65_1 (.skip))) q65_2)
def q65_4:ACode :=
 (.region [
 ob 10 (.mv (.tmp 4)),
 ob 11 (.bin .add (.tmp 10) (.cst (.int .i64 1))),
 ob 4 (.mv (.tmp 11))] false [0,3,4])
def q65_5:ACode :=
 (.seq (.block 1 (.seq (.region [
 ob 12 (.mv (.tmp 0)),
 ob 13 (.mv (.tmp 4)),
 ob 14 (.indexS (.tmp 12) (.tmp 13)),
 ob 5 (.mv (.tmp 14))] false [0,3,4,5]) q65_3)) q65_4)
def lb65_0:ACode :=
 (.seq (.seq (.region [
 ob 6 (.mv (.tmp 4)),
 ob 7 (.mv (.tmp 0)),
 ob 8 (.lenS (.tmp 7)),
 ob 9 (.bin .lss (.tmp 6) (.tmp 8))] false [0,3,4,9]) (.cond (.tmp 9) (.skip) (.exit 0))) q65_5)
def q65_6:ACode :=
 (.seq (.region [
 ob 44 (.mv (.tmp 3)),
 ob 45 (.b2s (.tmp 44)),
 ob 2 (.mv (.tmp 45))] false [2]) (.ret))
def q65_7:ACode :=
 (.seq (.seq (.region [
 ob 4 (.mv (.cst (.int .i64 0)))] false [0,3,4]) (.block 0 (.loop [0,3,4] lb65_0))) q65_6)
def q65_8:ACode :=
 (.seq (.region [
 ob 3 (.own 1 (.cst (.slice .c0 [])))] false [0,3]) q65_7)
def E65:=And.intro (exK_head q65_0.eq_1) (And.intro (exK_head q65_1.eq_1) (And.intro (exK_head q65_2.eq_1) (And.intro (exK_head q65_3.eq_1) (And.intro (exK_head q65_4.eq_1) (And.intro (exK_head q65_5.eq_1) (And.intro (exK_head lb65_0.eq_1) (And.intro (exK_head q65_6.eq_1) (And.intro (exK_head q65_7.eq_1) (exK_head q65_8.eq_1)))))))))
def ann65:Ann:={ n:=46,own:=[3],lv:=[(0,[0]),(1,[0,3]),(2,[0,3,4]),(3,[0,3,4,9]),(4,[0,3,4]),(5,[0,3,4,5]),(6,[0,3,4,5,23]),(7,[0,3,4,5]),(8,[0,3,4,5]),(9,[0,3,4]),(10,[2])],lp:=[(3,[0,3,4])] }
def fn65:AFn:=AFn.mk 1 [.tmp 2]
 (.seq (.region [
 ob 2 (.mv (.cst (.str [])))] false [0]) q65_8)
theorem ok65:compFn Tryz.prog ann65 Tryz.f65=some fn65:=by kernel_rfl
def q68_0:ACode :=
 (.region [
 ob 39 (.mv (.tmp 5)),
 ob 40 (.call 24 [(.tmp 39)]),
 ob 38 (.mv (.tmp 40)),
 ob 41 (.extract (.tmp 38) 0),
 ob 42 (.extract (.tmp 38) 1),
 ob 43 (.faddr 2 (.tmp 12)),
 ox (.store 8 (.tmp 43) (.tmp 41)),
 ob 13 (.mv (.tmp 42))] false [2,6,12,13])
def q68_1:ACode :=
 (.seq (.region [
 ob 37 (.faddr 0 (.tmp 12)),
 ox (.store 1 (.tmp 37) (.cst (.int .i64 1)))] false [2,5,6,12]) q68_0)
def q68_2:ACode :=
 (.region [
 ob 48 (.mv (.tmp 5)),
 ob 49 (.call 26 [(.tmp 48)]),
 ob 47 (.mv (.tmp 49)),
 ob 50 (.extract (.tmp 47) 0),
 ob 51 (.extract (.tmp 47) 1),
 ob 52 (.faddr 10 (.tmp 12)),
 ox (.store 7 (.tmp 52) (.tmp 50)),
 ob 13 (.mv (.tmp 51))] false [2,6,12,13])
def q68_3:ACode :=
 (.seq (.region [
 ob 46 (.faddr 0 (.tmp 12)),
 ox (.store 1 (.tmp 46) (.cst (.int .i64 2)))] false [2,5,6,12]) q68_2)
def q68_4:ACode :=
 (.seq (.region [
 ob 34 (.loadA 17 (.tmp 12)),
 ox (.store 17 (.tmp 2) (.tmp 34)),
 ob 3 (.mv (.cst (.bool false)))] false [2,3]) (.ret))
def q68_5:ACode :=
 (.seq (.region [
 ob 45 (.bin .eql (.tmp 33) (.cst (.str [101,110,100]))),
 ob 44 (.mv (.tmp 45))] false [2,5,6,12,44]) (.cond (.tmp 44) q68_3 q68_4))
def q68_6:ACode :=
 (.block 0 (.seq (.region [
 ob 36 (.bin .eql (.tmp 33) (.cst (.str [98,101,103,105,110]))),
 ob 35 (.mv (.tmp 36))] false [2,5,6,12,33,35]) (.cond (.tmp 35) q68_1 q68_5)))
def q68_7:ACode :=
 (.seq (.region [
 ob 53 (.loadA 17 (.tmp 12)),
 ob 54 (.mv (.tmp 6)),
 ob 55 (.mv (.tmp 54)),
 og 56 55 true (.mv (.tmp 13)),
 og 57 55 true (.bin .eql (.tmp 56) (.cst (.int .i64 0))),
 ob 58 (.pick (.tmp 55) (.tmp 57) (.cst (.bool false))),
 ox (.store 17 (.tmp 2) (.tmp 53)),
 ob 3 (.mv (.tmp 58))] false [2,3]) (.ret))
def q68_8:ACode :=
 (.seq (.seq (.region [
 ob 33 (.mv (.tmp 7))] false [2,5,6,12,33]) q68_6) q68_7)
def q68_9:ACode :=
 (.seq (.region [
 ob 13 (.mv (.cst (.int .i64 0)))] false [2,5,6,7,12]) q68_8)
def q68_10:ACode :=
 (.seq (.region [
 ob 31 (.mv (.tmp 10)),
 ob 32 (.build [(.int .i64 0),(.int .i64 0),(.int .i64 0),(.int .i64 0),(.str []),(.str []),(.int .i64 0),(.int .i64 0),(.int .i64 0),(.slice .c0 []),(.int .i64 0),(.int .i64 0),(.int .i64 0),(.int .i64 0),(.int .i64 0),(.slice .c0 []),(.slice .c0 [])] [(1,1,(.tmp 31))]),
 ob 12 (.box0 [(.int .i64 0),(.int .i64 0),(.int .i64 0),(.int .i64 0),(.str []),(.str []),(.int .i64 0),(.int .i64 0),(.int .i64 0),(.slice .c0 []),(.int .i64 0),(.int .i64 0),(.int .i64 0),(.int .i64 0),(.int .i64 0),(.slice .c0 []),(.slice .c0 [])]),
 ox (.store 17 (.tmp 12) (.tmp 32))] false [2,5,6,7,12]) q68_9)
def q68_11:ACode :=
 (.seq (.region [
 ob 27 (.mv (.tmp 8)),
 ob 28 (.call 58 [(.tmp 27)]),
 ob 26 (.mv (.tmp 28)),
 ob 29 (.extract (.tmp 26) 0),
 ob 30 (.extract (.tmp 26) 1),
 ob 10 (.mv (.tmp 29)),
 ob 11 (.mv (.tmp 30))] false [2,5,6,7,10]) q68_10)
def q68_12:ACode :=
 (.seq (.region [
 ob 21 (.mv (.tmp 4)),
 ob 22 (.call 93 [(.tmp 21),(.cst (.str [32]))]),
 ob 20 (.mv (.tmp 22)),
 ob 23 (.extract (.tmp 20) 0),
 ob 24 (.extract (.tmp 20) 1),
 ob 25 (.extract (.tmp 20) 2),
 ob 7 (.mv (.tmp 23)),
 ob 8 (.mv (.tmp 24)),
 ob 9 (.mv (.tmp 25))] false [2,5,6,7,8]) q68_11)
def q68_13:ACode :=
 (.seq (.region [
 ob 15 (.mv (.tmp 0)),
 ob 16 (.call 93 [(.tmp 15),(.cst (.str [58,32]))]),
 ob 14 (.mv (.tmp 16)),
 ob 17 (.extract (.tmp 14) 0),
 ob 18 (.extract (.tmp 14) 1),
 ob 19 (.extract (.tmp 14) 2),
 ob 4 (.mv (.tmp 17)),
 ob 5 (.mv (.tmp 18)),
 ob 6 (.mv (.tmp 19))] false [2,4,5,6]) q68_12)
def E68:=And.intro (exK_head q68_0.eq_1) (And.intro (exK_head q68_1.eq_1) (And.intro (exK_head q68_2.eq_1) (And.intro (exK_head q68_3.eq_1) (And.intro (exK_head q68_4.eq_1) (And.intro (exK_head q68_5.eq_1) (And.intro (exK_head q68_6.eq_1) (And.intro (exK_head q68_7.eq_1) (And.intro (exK_head q68_8.eq_1) (And.intro (exK_head q68_9.eq_1) (And.intro (exK_head q68_10.eq_1) (And.intro (exK_head q68_11.eq_1) (And.intro (exK_head q68_12.eq_1) (exK_head q68_13.eq_1)))))))))))))
def ann68:Ann:={ n:=59,own:=[],lv:=[(0,[0,2]),(1,[2,4,5,6]),(2,[2,5,6,7,8]),(3,[2,5,6,7,10]),(4,[2,5,6,7,12]),(5,[2,5,6,7,12]),(6,[2,5,6,12,33]),(7,[2,3]),(8,[2,5,6,12,33,35]),(9,[2,5,6,12]),(10,[2,6,12,13]),(11,[2,5,6,12,44]),(12,[2,5,6,12]),(13,[2,6,12,13]),(14,[2,3])],lp:=[] }
def fn68:AFn:=AFn.mk 1 [.cellA 2 17,.tmp 3]
 (.seq (.region [
 ob 2 (.box0 [(.int .i64 0),(.int .i64 0),(.int .i64 0),(.int .i64 0),(.str []),(.str []),(.int .i64 0),(.int .i64 0),(.int .i64 0),(.slice .c0 []),(.int .i64 0),(.int .i64 0),(.int .i64 0),(.int .i64 0),(.int .i64 0),(.slice .c0 []),(.slice .c0 [])]),
 ob 3 (.mv (.cst (.bool false)))] false [0,2]) q68_13)
theorem ok68:compFn Tryz.prog ann68 Tryz.f68=some fn68:=by kernel_rfl
def q88_0:ACode :=
 (.seq (.region [
 ob 3 (.mv (.tmp 0)),
 ob 4 (.bin .or (.tmp 3) (.cst (.int .u8 32))),
 ob 5 (.bin .geq (.tmp 4) (.cst (.int .u8 97))),
 ob 6 (.mv (.tmp 5)),
 og 7 6 true (.mv (.tmp 0)),
 og 8 6 true (.bin .or (.tmp 7) (.cst (.int .u8 32))),
 og 9 6 true (.bin .leq (.tmp 8) (.cst (.int .u8 122))),
 ob 10 (.pick (.tmp 6) (.tmp 9) (.cst (.bool false))),
 ob 11 (.mv (.tmp 10)),
 og 12 11 false (.mv (.tmp 0)),
 og 13 11 false (.bin .geq (.tmp 12) (.cst (.int .u8 48))),
 og 14 11 false (.mv (.tmp 13)),
 og 15 14 true (.mv (.tmp 0)),
 og 16 14 true (.bin .leq (.tmp 15) (.cst (.int .u8 57))),
 og 17 11 false (.pick (.tmp 14) (.tmp 16) (.cst (.bool false))),
 ob 18 (.pick (.tmp 11) (.cst (.bool true)) (.tmp 17)),
 ob 19 (.mv (.tmp 18)),
 og 20 19 false (.mv (.tmp 0)),
 og 21 19 false (.call 98 [(.cst (.str [47,46,95,45])),(.tmp 20)]),
 og 22 19 false (.bin .geq (.tmp 21) (.cst (.int .i64 0))),
 ob 23 (.pick (.tmp 19) (.cst (.bool true)) (.tmp 22)),
 ob 2 (.mv (.tmp 23))] false [2]) (.ret))
def E88:=exK_head q88_0.eq_1
def ann88:Ann:={ n:=24,own:=[],lv:=[(0,[0]),(1,[2])],lp:=[] }
def fn88:AFn:=AFn.mk 1 [.tmp 2]
 (.seq (.region [
 ob 2 (.mv (.cst (.bool false)))] false [0]) q88_0)
theorem ok88:compFn Tryz.prog ann88 Tryz.f88=some fn88:=by kernel_rfl
def q89_0:ACode :=
 (.seq (.region [
 ob 4 (.mv (.cst (.raw .nilIface)))] false [4]) (.ret))
def q89_1:ACode :=
 (.seq (.region [
 ob 7 (.mv (.tmp 0)),
 ob 8 (.mv (.tmp 0)),
 ob 9 (.chk (.tmp 8)),
 ob 10 (.faddr 1 (.tmp 9)),
 ob 11 (.load1 (.tmp 10)),
 ob 12 (.mv (.tmp 1)),
 ob 13 (.lits 1 [(.tmp 12)]),
 ob 14 (.appendB 5 (.tmp 11) (.tmp 13)),
 ob 15 (.chk (.tmp 7)),
 ob 16 (.faddr 1 (.tmp 15)),
 ox (.store 1 (.tmp 16) (.tmp 14))] false []) q89_0)
def q89_2:ACode :=
 (.seq (.region [
 ob 5 (.mv (.tmp 0)),
 ob 6 (.call 91 [(.tmp 5)])] false [0,1]) q89_1)
def E89:=And.intro (exK_head q89_0.eq_1) (And.intro (exK_head q89_1.eq_1) (exK_head q89_2.eq_1))
def ann89:Ann:={ n:=17,own:=[4000000],lv:=[(0,[0,1]),(1,[0,1]),(2,[]),(3,[4])],lp:=[] }
def fn89:AFn:=AFn.mk 2 [.tmp 4]
 (.seq (.region [
 ob 4 (.mv (.cst (.raw .nilIface)))] false [0,1]) q89_2)
theorem ok89:compFn Tryz.prog ann89 Tryz.f89=some fn89:=by kernel_rfl
def q96_0:ACode :=
 (.seq (.region [
 ob 8 (.mv (.tmp 0)),
 ob 9 (.mv (.tmp 1)),
 ob 10 (.lenS (.tmp 9)),
 ob 11 (.sliceS (.tmp 8) (some (.tmp 10)) none),
 ob 4 (.mv (.tmp 11))] false [4]) (.ret))
def q96_1:ACode :=
 (.seq (.region [
 ob 12 (.mv (.tmp 0)),
 ob 4 (.mv (.tmp 12))] false [4]) (.ret))
def q96_2:ACode :=
 (.seq (.seq (.region [
 ob 5 (.mv (.tmp 0)),
 ob 6 (.mv (.tmp 1)),
 ob 7 (.call 135 [(.tmp 5),(.tmp 6)])] false [0,1,7]) (.cond (.tmp 7) q96_0 (.skip))) q96_1)
def E96:=And.intro (exK_head q96_0.eq_1) (And.intro (exK_head q96_1.eq_1) (exK_head q96_2.eq_1))
def ann96:Ann:={ n:=13,own:=[],lv:=[(0,[0,1]),(1,[0,1,7]),(2,[4]),(3,[4])],lp:=[] }
def fn96:AFn:=AFn.mk 2 [.tmp 4]
 (.seq (.region [
 ob 4 (.mv (.cst (.str [])))] false [0,1]) q96_2)
theorem ok96:compFn Tryz.prog ann96 Tryz.f96=some fn96:=by kernel_rfl
def q135_0:ACode :=
 (.seq (.region [
 ob 5 (.mv (.tmp 0)),
 ob 6 (.lenS (.tmp 5)),
 ob 7 (.mv (.tmp 1)),
 ob 8 (.lenS (.tmp 7)),
 ob 9 (.bin .geq (.tmp 6) (.tmp 8)),
 ob 10 (.mv (.tmp 9)),
 og 11 10 true (.mv (.tmp 0)),
 og 12 10 true (.mv (.tmp 1)),
 og 13 10 true (.lenS (.tmp 12)),
 og 14 10 true (.sliceS (.tmp 11) none (some (.tmp 13))),
 og 15 10 true (.mv (.tmp 1)),
 og 16 10 true (.bin .eql (.tmp 14) (.tmp 15)),
 ob 17 (.pick (.tmp 10) (.tmp 16) (.cst (.bool false))),
 ob 4 (.mv (.tmp 17))] false [4]) (.ret))
def E135:=exK_head q135_0.eq_1
def ann135:Ann:={ n:=18,own:=[],lv:=[(0,[0,1]),(1,[4])],lp:=[] }
def fn135:AFn:=AFn.mk 2 [.tmp 4]
 (.seq (.region [
 ob 4 (.mv (.cst (.bool false)))] false [0,1]) q135_0)
theorem ok135:compFn Tryz.prog ann135 Tryz.f135=some fn135:=by kernel_rfl
end Go.Proofs.YtannopdcbocngaaGreatDoor
set_option linter.defProp false
namespace Go.Proofs.YtannopdcbocngaaGreatDoor
open Go Go.Abs
def q30_0:ACode :=
 (.seq (.region [
 ob 5 (.faddr 0 (.tmp 2)),
 ob 6 (.load1 (.tmp 5)),
 ob 7 (.faddr 0 (.tmp 3)),
 ob 8 (.load1 (.tmp 7)),
 ob 9 (.bin .eql (.tmp 6) (.tmp 8)),
 ob 10 (.mv (.tmp 9)),
 og 11 10 true (.faddr 1 (.tmp 2)),
 og 12 10 true (.load1 (.tmp 11)),
 og 13 10 true (.faddr 1 (.tmp 3)),
 og 14 10 true (.load1 (.tmp 13)),
 og 15 10 true (.bin .eql (.tmp 12) (.tmp 14)),
 ob 16 (.pick (.tmp 10) (.tmp 15) (.cst (.bool false))),
 ob 17 (.mv (.tmp 16)),
 og 18 17 true (.faddr 2 (.tmp 2)),
 og 19 17 true (.load1 (.tmp 18)),
 og 20 17 true (.faddr 2 (.tmp 3)),
 og 21 17 true (.load1 (.tmp 20)),
 og 22 17 true (.bin .eql (.tmp 19) (.tmp 21)),
 ob 23 (.pick (.tmp 17) (.tmp 22) (.cst (.bool false))),
 ob 24 (.mv (.tmp 23)),
 og 25 24 true (.faddr 3 (.tmp 2)),
 og 26 24 true (.load1 (.tmp 25)),
 og 27 24 true (.faddr 3 (.tmp 3)),
 og 28 24 true (.load1 (.tmp 27)),
 og 29 24 true (.bin .eql (.tmp 26) (.tmp 28)),
 ob 30 (.pick (.tmp 24) (.tmp 29) (.cst (.bool false))),
 ob 31 (.mv (.tmp 30)),
 og 32 31 true (.faddr 4 (.tmp 2)),
 og 33 31 true (.load1 (.tmp 32)),
 og 34 31 true (.faddr 4 (.tmp 3)),
 og 35 31 true (.load1 (.tmp 34)),
 og 36 31 true (.bin .eql (.tmp 33) (.tmp 35)),
 ob 37 (.pick (.tmp 31) (.tmp 36) (.cst (.bool false))),
 ob 38 (.mv (.tmp 37)),
 og 39 38 true (.faddr 5 (.tmp 2)),
 og 40 38 true (.load1 (.tmp 39)),
 og 41 38 true (.faddr 5 (.tmp 3)),
 og 42 38 true (.load1 (.tmp 41)),
 og 43 38 true (.bin .eql (.tmp 40) (.tmp 42)),
 ob 44 (.pick (.tmp 38) (.tmp 43) (.cst (.bool false))),
 ob 45 (.mv (.tmp 44)),
 og 46 45 true (.faddr 6 (.tmp 2)),
 og 47 45 true (.load1 (.tmp 46)),
 og 48 45 true (.faddr 6 (.tmp 3)),
 og 49 45 true (.load1 (.tmp 48)),
 og 50 45 true (.bin .eql (.tmp 47) (.tmp 49)),
 ob 51 (.pick (.tmp 45) (.tmp 50) (.cst (.bool false))),
 ob 52 (.mv (.tmp 51)),
 og 53 52 true (.faddr 7 (.tmp 2)),
 og 54 52 true (.load1 (.tmp 53)),
 og 55 52 true (.faddr 7 (.tmp 3)),
 og 56 52 true (.load1 (.tmp 55)),
 og 57 52 true (.call 70 [(.tmp 54),(.tmp 56)]),
 ob 58 (.pick (.tmp 52) (.tmp 57) (.cst (.bool false))),
 ob 4 (.mv (.tmp 58))] false [4]) (.ret))
def ann30:Ann:={ n:=59,own:=[],lv:=[(0,[2,3]),(1,[4])],lp:=[] }
def fn30:AFn:=AFn.mk 2 [.tmp 4]
 (.seq (.region [
 ob 2 (.box (.tmp 0)),
 ob 3 (.box (.tmp 1)),
 ob 4 (.mv (.cst (.bool false)))] false [2,3]) q30_0)
theorem ok30:compFn Tryz.prog ann30 Tryz.f30=some fn30:=by kernel_rfl
def q31_0:ACode :=
 (.seq (.region [
 ob 4 (.mv (.cst (.bool false)))] false [4]) (.ret))
def q31_1:ACode :=
 (.seq (.region [
 ob 4 (.mv (.cst (.bool false)))] false [4]) (.ret))
def q31_2:ACode :=
 (.region [
 ob 61 (.mv (.tmp 5)),
 ob 62 (.bin .add (.tmp 61) (.cst (.int .i64 1))),
 ob 5 (.mv (.tmp 62))] false [2,3,5])
def q31_3:ACode :=
 (.seq (.block 1 (.seq (.region [
 ob 63 (.faddr 5 (.tmp 2)),
 ob 64 (.load1 (.tmp 63)),
 ob 65 (.mv (.tmp 5)),
 ob 66 (.iaddr 1 (.tmp 64) (.tmp 65)),
 ob 67 (.load1 (.tmp 66)),
 ob 68 (.faddr 5 (.tmp 3)),
 ob 69 (.load1 (.tmp 68)),
 ob 70 (.mv (.tmp 5)),
 ob 71 (.iaddr 1 (.tmp 69) (.tmp 70)),
 ob 72 (.load1 (.tmp 71)),
 ob 73 (.bin .neq (.tmp 67) (.tmp 72))] true [2,3,5,73]) (.cond (.tmp 73) q31_1 (.skip)))) q31_2)
def lb31_0:ACode :=
 (.seq (.seq (.region [
 ob 56 (.mv (.tmp 5)),
 ob 57 (.faddr 5 (.tmp 2)),
 ob 58 (.load1 (.tmp 57)),
 ob 59 (.lenV (.tmp 58)),
 ob 60 (.bin .lss (.tmp 56) (.tmp 59))] false [2,3,5,60]) (.cond (.tmp 60) (.skip) (.exit 0))) q31_3)
def q31_4:ACode :=
 (.seq (.region [
 ob 4 (.mv (.cst (.bool true)))] false [4]) (.ret))
def q31_5:ACode :=
 (.seq (.seq (.region [
 ob 5 (.mv (.cst (.int .i64 0)))] false [2,3,5]) (.block 0 (.loop [2,3,5] lb31_0))) q31_4)
def q31_6:ACode :=
 (.seq (.seq (.region [
 ob 6 (.faddr 0 (.tmp 2)),
 ob 7 (.load1 (.tmp 6)),
 ob 8 (.faddr 0 (.tmp 3)),
 ob 9 (.load1 (.tmp 8)),
 ob 10 (.bin .neq (.tmp 7) (.tmp 9)),
 ob 11 (.mv (.tmp 10)),
 og 12 11 false (.faddr 1 (.tmp 2)),
 og 13 11 false (.load1 (.tmp 12)),
 og 14 11 false (.faddr 1 (.tmp 3)),
 og 15 11 false (.load1 (.tmp 14)),
 og 16 11 false (.bin .neq (.tmp 13) (.tmp 15)),
 ob 17 (.pick (.tmp 11) (.cst (.bool true)) (.tmp 16)),
 ob 18 (.mv (.tmp 17)),
 og 19 18 false (.faddr 2 (.tmp 2)),
 og 20 18 false (.load1 (.tmp 19)),
 og 21 18 false (.faddr 2 (.tmp 3)),
 og 22 18 false (.load1 (.tmp 21)),
 og 23 18 false (.bin .neq (.tmp 20) (.tmp 22)),
 ob 24 (.pick (.tmp 18) (.cst (.bool true)) (.tmp 23)),
 ob 25 (.mv (.tmp 24)),
 og 26 25 false (.faddr 3 (.tmp 2)),
 og 27 25 false (.load1 (.tmp 26)),
 og 28 25 false (.faddr 3 (.tmp 3)),
 og 29 25 false (.load1 (.tmp 28)),
 og 30 25 false (.bin .neq (.tmp 27) (.tmp 29)),
 ob 31 (.pick (.tmp 25) (.cst (.bool true)) (.tmp 30)),
 ob 32 (.mv (.tmp 31)),
 og 33 32 false (.faddr 4 (.tmp 2)),
 og 34 32 false (.load1 (.tmp 33)),
 og 35 32 false (.faddr 4 (.tmp 3)),
 og 36 32 false (.load1 (.tmp 35)),
 og 37 32 false (.bin .neq (.tmp 34) (.tmp 36)),
 ob 38 (.pick (.tmp 32) (.cst (.bool true)) (.tmp 37)),
 ob 39 (.mv (.tmp 38)),
 og 40 39 false (.faddr 5 (.tmp 2)),
 og 41 39 false (.load1 (.tmp 40)),
 og 42 39 false (.lenV (.tmp 41)),
 og 43 39 false (.faddr 5 (.tmp 3)),
 og 44 39 false (.load1 (.tmp 43)),
 og 45 39 false (.lenV (.tmp 44)),
 og 46 39 false (.bin .neq (.tmp 42) (.tmp 45)),
 ob 47 (.pick (.tmp 39) (.cst (.bool true)) (.tmp 46)),
 ob 48 (.mv (.tmp 47)),
 og 49 48 false (.faddr 6 (.tmp 2)),
 og 50 48 false (.load1 (.tmp 49)),
 og 51 48 false (.faddr 6 (.tmp 3)),
 og 52 48 false (.load1 (.tmp 51)),
 og 53 48 false (.call 70 [(.tmp 50),(.tmp 52)]),
 og 54 48 false (.not (.tmp 53)),
 ob 55 (.pick (.tmp 48) (.cst (.bool true)) (.tmp 54))] false [2,3,55]) (.cond (.tmp 55) q31_0 (.skip))) q31_5)
def ann31:Ann:={ n:=74,own:=[],lv:=[(0,[2,3]),(1,[2,3,55]),(2,[4]),(3,[2,3,5]),(4,[2,3,5,60]),(5,[2,3,5]),(6,[2,3,5,73]),(7,[4]),(8,[4])],lp:=[(4,[2,3,5])] }
def fn31:AFn:=AFn.mk 2 [.tmp 4]
 (.seq (.region [
 ob 2 (.box (.tmp 0)),
 ob 3 (.box (.tmp 1)),
 ob 4 (.mv (.cst (.bool false)))] false [2,3]) q31_6)
theorem ok31:compFn Tryz.prog ann31 Tryz.f31=some fn31:=by kernel_rfl
def q33_0:ACode :=
 (.region [
 ob 33 (.mv (.tmp 7)),
 ob 34 (.bin .add (.tmp 33) (.cst (.int .i64 1))),
 ob 6 (.mv (.tmp 34))] false [0,1,5,6,7])
def q33_1:ACode :=
 (.seq (.region [
 ob 26 (.mv (.tmp 5)),
 ob 27 (.mv (.tmp 0)),
 ob 28 (.mv (.tmp 6)),
 ob 29 (.mv (.tmp 7)),
 ob 30 (.sliceS (.tmp 27) (some (.tmp 28)) (some (.tmp 29))),
 ob 31 (.lits 1 [(.tmp 30)]),
 ob 32 (.append 1 16 (.tmp 26) (.tmp 31)),
 ob 5 (.mv (.tmp 32))] false [0,1,5,7]) q33_0)
def q33_2:ACode :=
 (.region [
 ob 13 (.mv (.tmp 7)),
 ob 14 (.bin .add (.tmp 13) (.cst (.int .i64 1))),
 ob 7 (.mv (.tmp 14))] false [0,1,5,6,7])
def q33_3:ACode :=
 (.seq (.block 1 (.seq (.region [
 ob 15 (.mv (.tmp 7)),
 ob 16 (.mv (.tmp 0)),
 ob 17 (.lenS (.tmp 16)),
 ob 18 (.bin .eql (.tmp 15) (.tmp 17)),
 ob 19 (.mv (.tmp 18)),
 og 20 19 false (.mv (.tmp 0)),
 og 21 19 false (.mv (.tmp 7)),
 og 22 19 false (.indexS (.tmp 20) (.tmp 21)),
 og 23 19 false (.mv (.tmp 1)),
 og 24 19 false (.bin .eql (.tmp 22) (.tmp 23)),
 ob 25 (.pick (.tmp 19) (.cst (.bool true)) (.tmp 24))] false [0,1,5,6,7,25]) (.cond (.tmp 25) q33_1 (.skip)))) q33_2)
def lb33_0:ACode :=
 (.seq (.seq (.region [
 ob 9 (.mv (.tmp 7)),
 ob 10 (.mv (.tmp 0)),
 ob 11 (.lenS (.tmp 10)),
 ob 12 (.bin .leq (.tmp 9) (.tmp 11))] false [0,1,5,6,7,12]) (.cond (.tmp 12) (.skip) (.exit 0))) q33_3)
def q33_4:ACode :=
 (.seq (.region [
 ob 35 (.mv (.tmp 5)),
 ob 4 (.mv (.tmp 35))] false [4]) (.ret))
def q33_5:ACode :=
 (.seq (.seq (.region [
 ob 7 (.mv (.cst (.int .i64 0)))] false [0,1,5,6,7]) (.block 0 (.loop [0,1,5,6,7] lb33_0))) q33_4)
def q33_6:ACode :=
 (.seq (.region [
 ob 6 (.mv (.cst (.int .i64 0)))] false [0,1,5,6]) q33_5)
def q33_7:ACode :=
 (.seq (.region [
 ob 8 (.litsO 1 []),
 ob 5 (.mv (.tmp 8))] false [0,1,5]) q33_6)
def E33:=And.intro (exK_head q33_0.eq_1) (And.intro (exK_head q33_1.eq_1) (And.intro (exK_head q33_2.eq_1) (And.intro (exK_head q33_3.eq_1) (And.intro (exK_head lb33_0.eq_1) (And.intro (exK_head q33_4.eq_1) (And.intro (exK_head q33_5.eq_1) (And.intro (exK_head q33_6.eq_1) (exK_head q33_7.eq_1))))))))
def ann33:Ann:={ n:=36,own:=[8],lv:=[(0,[0,1]),(1,[0,1,5]),(2,[0,1,5,6]),(3,[0,1,5,6,7]),(4,[0,1,5,6,7,12]),(5,[0,1,5,6,7]),(6,[0,1,5,6,7,25]),(7,[0,1,5,7]),(8,[0,1,5,6,7]),(9,[4])],lp:=[(4,[0,1,5,6,7])] }
def fn33:AFn:=AFn.mk 2 [.tmp 4]
 (.seq (.region [
 ob 4 (.mv (.cst (.slice .c0 [])))] false [0,1]) q33_7)
theorem ok33:compFn Tryz.prog ann33 Tryz.f33=some fn33:=by kernel_rfl
def q34_0:ACode :=
 (.seq (.region [
 ob 19 (.mv (.tmp 4)),
 ob 20 (.mv (.tmp 0)),
 ob 21 (.mv (.tmp 5)),
 ob 22 (.indexS (.tmp 20) (.tmp 21)),
 ob 23 (.lits 1 [(.tmp 22)]),
 ob 24 (.append 1 1 (.tmp 19) (.tmp 23)),
 ob 4 (.mv (.tmp 24))] false [0,4,5]) (.exit 1))
def q34_1:ACode :=
 (.seq (.region [
 ob 2 (.mv (.cst (.str []))),
 ob 3 (.mv (.cst (.bool false)))] false [2,3]) (.ret))
def q34_2:ACode :=
 (.seq (.region [
 ob 2 (.mv (.cst (.str []))),
 ob 3 (.mv (.cst (.bool false)))] false [2,3]) (.ret))
def q34_3:ACode :=
 (.region [
 ob 68 (.mv (.tmp 5)),
 ob 69 (.bin .add (.tmp 68) (.cst (.int .i64 2))),
 ob 5 (.mv (.tmp 69))] false [0,4,5])
def q34_4:ACode :=
 (.seq (.region [
 ob 60 (.mv (.tmp 4)),
 ob 61 (.mv (.tmp 6)),
 ob 62 (.bin .mul (.cst (.int .i64 16)) (.tmp 61)),
 ob 63 (.mv (.tmp 7)),
 ob 64 (.bin .add (.tmp 62) (.tmp 63)),
 ob 65 (.conv .u8 (.tmp 64)),
 ob 66 (.lits 1 [(.tmp 65)]),
 ob 67 (.append 1 1 (.tmp 60) (.tmp 66)),
 ob 4 (.mv (.tmp 67))] false [0,4,5]) q34_3)
def q34_5:ACode :=
 (.seq (.seq (.region [
 ob 46 (.mv (.tmp 6)),
 ob 47 (.bin .lss (.tmp 46) (.cst (.int .i64 0))),
 ob 48 (.mv (.tmp 47)),
 og 49 48 false (.mv (.tmp 7)),
 og 50 48 false (.bin .lss (.tmp 49) (.cst (.int .i64 0))),
 ob 51 (.pick (.tmp 48) (.cst (.bool true)) (.tmp 50)),
 ob 52 (.mv (.tmp 51)),
 og 53 52 false (.mv (.tmp 6)),
 og 54 52 false (.bin .mul (.cst (.int .i64 16)) (.tmp 53)),
 og 55 52 false (.mv (.tmp 7)),
 og 56 52 false (.bin .add (.tmp 54) (.tmp 55)),
 og 57 52 false (.conv .u8 (.tmp 56)),
 og 58 52 false (.call 71 [(.tmp 57)]),
 ob 59 (.pick (.tmp 52) (.cst (.bool true)) (.tmp 58))] false [0,4,5,6,7,59]) (.cond (.tmp 59) q34_2 (.skip))) q34_4)
def q34_6:ACode :=
 (.seq (.region [
 ob 41 (.mv (.tmp 0)),
 ob 42 (.mv (.tmp 5)),
 ob 43 (.bin .add (.tmp 42) (.cst (.int .i64 2))),
 ob 44 (.indexS (.tmp 41) (.tmp 43)),
 ob 45 (.call 72 [(.tmp 44)]),
 ob 7 (.mv (.tmp 45))] false [0,4,5,6,7]) q34_5)
def q34_7:ACode :=
 (.seq (.region [
 ob 36 (.mv (.tmp 0)),
 ob 37 (.mv (.tmp 5)),
 ob 38 (.bin .add (.tmp 37) (.cst (.int .i64 1))),
 ob 39 (.indexS (.tmp 36) (.tmp 38)),
 ob 40 (.call 72 [(.tmp 39)]),
 ob 6 (.mv (.tmp 40))] false [0,4,5,6]) q34_6)
def q34_8:ACode :=
 (.seq (.seq (.region [
 ob 25 (.mv (.tmp 0)),
 ob 26 (.mv (.tmp 5)),
 ob 27 (.indexS (.tmp 25) (.tmp 26)),
 ob 28 (.bin .neq (.tmp 27) (.cst (.int .u8 37))),
 ob 29 (.mv (.tmp 28)),
 og 30 29 false (.mv (.tmp 5)),
 og 31 29 false (.bin .add (.tmp 30) (.cst (.int .i64 2))),
 og 32 29 false (.mv (.tmp 0)),
 og 33 29 false (.lenS (.tmp 32)),
 og 34 29 false (.bin .geq (.tmp 31) (.tmp 33)),
 ob 35 (.pick (.tmp 29) (.cst (.bool true)) (.tmp 34))] false [0,4,5,35]) (.cond (.tmp 35) q34_1 (.skip))) q34_7)
def q34_9:ACode :=
 (.region [
 ob 13 (.mv (.tmp 5)),
 ob 14 (.bin .add (.tmp 13) (.cst (.int .i64 1))),
 ob 5 (.mv (.tmp 14))] false [0,4,5])
def q34_10:ACode :=
 (.seq (.block 1 (.seq (.seq (.region [
 ob 15 (.mv (.tmp 0)),
 ob 16 (.mv (.tmp 5)),
 ob 17 (.indexS (.tmp 15) (.tmp 16)),
 ob 18 (.call 71 [(.tmp 17)])] false [0,4,5,18]) (.cond (.tmp 18) q34_0 (.skip))) q34_8)) q34_9)
def lb34_0:ACode :=
 (.seq (.seq (.region [
 ob 9 (.mv (.tmp 5)),
 ob 10 (.mv (.tmp 0)),
 ob 11 (.lenS (.tmp 10)),
 ob 12 (.bin .lss (.tmp 9) (.tmp 11))] false [0,4,5,12]) (.cond (.tmp 12) (.skip) (.exit 0))) q34_10)
def q34_11:ACode :=
 (.seq (.region [
 ob 70 (.mv (.tmp 4)),
 ob 71 (.b2s (.tmp 70)),
 ob 2 (.mv (.tmp 71)),
 ob 3 (.mv (.cst (.bool true)))] false [2,3]) (.ret))
def q34_12:ACode :=
 (.seq (.seq (.region [
 ob 5 (.mv (.cst (.int .i64 0)))] false [0,4,5]) (.block 0 (.loop [0,4,5] lb34_0))) q34_11)
def q34_13:ACode :=
 (.seq (.region [
 ob 8 (.litsO 1 []),
 ob 4 (.mv (.tmp 8))] false [0,4]) q34_12)
def E34:=And.intro (exK_head q34_0.eq_1) (And.intro (exK_head q34_1.eq_1) (And.intro (exK_head q34_2.eq_1) (And.intro (exK_head q34_3.eq_1) (And.intro (exK_head q34_4.eq_1) (And.intro (exK_head q34_5.eq_1) (And.intro (exK_head q34_6.eq_1) (And.intro (exK_head q34_7.eq_1) (And.intro (exK_head q34_8.eq_1) (And.intro (exK_head q34_9.eq_1) (And.intro (exK_head q34_10.eq_1) (And.intro (exK_head lb34_0.eq_1) (And.intro (exK_head q34_11.eq_1) (And.intro (exK_head q34_12.eq_1) (exK_head q34_13.eq_1))))))))))))))
def ann34:Ann:={ n:=72,own:=[8],lv:=[(0,[0]),(1,[0,4]),(2,[0,4,5]),(3,[0,4,5,12]),(4,[0,4,5]),(5,[0,4,5,18]),(6,[0,4,5]),(7,[0,4,5,35]),(8,[2,3]),(9,[0,4,5,6]),(10,[0,4,5,6,7]),(11,[0,4,5,6,7,59]),(12,[2,3]),(13,[0,4,5]),(14,[0,4,5]),(15,[2,3])],lp:=[(3,[0,4,5])] }
def fn34:AFn:=AFn.mk 1 [.tmp 2,.tmp 3]
 (.seq (.region [
 ob 2 (.mv (.cst (.str []))),
 ob 3 (.mv (.cst (.bool false)))] false [0]) q34_13)
theorem ok34:compFn Tryz.prog ann34 Tryz.f34=some fn34:=by kernel_rfl
def q37_0:ACode :=
 (.region [
 ob 9 (.mv (.tmp 3)),
 ob 10 (.neg (.tmp 9)),
 ob 3 (.mv (.tmp 10))] false [0,3])
def q37_1:ACode :=
 (.region [
 ob 25 (.mv (.tmp 3)),
 ob 26 (.bin .quo (.tmp 25) (.cst (.int .u64 10))),
 ob 3 (.mv (.tmp 26))] false [0,3,4])
def q37_2:ACode :=
 (.block 1 (.seq (.region [
 ob 17 (.mv (.tmp 3)),
 ob 18 (.bin .rem (.tmp 17) (.cst (.int .u64 10))),
 ob 19 (.bin .add (.cst (.int .u64 48)) (.tmp 18)),
 ob 20 (.conv .u8 (.tmp 19)),
 ob 21 (.lits 1 [(.tmp 20)]),
 ob 22 (.b2s (.tmp 21)),
 ob 23 (.mv (.tmp 4)),
 ob 24 (.bin .add (.tmp 22) (.tmp 23)),
 ob 4 (.mv (.tmp 24))] false [0,3,4]) q37_1))
def lb37_0:ACode :=
 (.seq (.seq (.region [
 ob 11 (.mv (.tmp 3)),
 ob 12 (.bin .gtr (.tmp 11) (.cst (.int .u64 0))),
 ob 13 (.mv (.tmp 12)),
 og 14 13 false (.mv (.tmp 4)),
 og 15 13 false (.bin .eql (.tmp 14) (.cst (.str []))),
 ob 16 (.pick (.tmp 13) (.cst (.bool true)) (.tmp 15))] false [0,3,4,16]) (.cond (.tmp 16) (.skip) (.exit 0))) q37_2)
def q37_3:ACode :=
 (.seq (.region [
 ob 29 (.mv (.tmp 4)),
 ob 30 (.bin .add (.cst (.str [45])) (.tmp 29)),
 ob 2 (.mv (.tmp 30))] false [2]) (.ret))
def q37_4:ACode :=
 (.seq (.region [
 ob 31 (.mv (.tmp 4)),
 ob 2 (.mv (.tmp 31))] false [2]) (.ret))
def q37_5:ACode :=
 (.seq (.seq (.region [
 ob 27 (.mv (.tmp 0)),
 ob 28 (.bin .lss (.tmp 27) (.cst (.int .i64 0)))] false [4,28]) (.cond (.tmp 28) q37_3 (.skip))) q37_4)
def q37_6:ACode :=
 (.seq (.block 0 (.loop [0,3,4] lb37_0)) q37_5)
def q37_7:ACode :=
 (.seq (.region [
 ob 4 (.mv (.cst (.str [])))] false [0,3,4]) q37_6)
def q37_8:ACode :=
 (.seq (.seq (.region [
 ob 7 (.mv (.tmp 0)),
 ob 8 (.bin .lss (.tmp 7) (.cst (.int .i64 0)))] false [0,3,8]) (.cond (.tmp 8) q37_0 (.skip))) q37_7)
def q37_9:ACode :=
 (.seq (.region [
 ob 5 (.mv (.tmp 0)),
 ob 6 (.conv .u64 (.tmp 5)),
 ob 3 (.mv (.tmp 6))] false [0,3]) q37_8)
def E37:=And.intro (exK_head q37_0.eq_1) (And.intro (exK_head q37_1.eq_1) (And.intro (exK_head q37_2.eq_1) (And.intro (exK_head lb37_0.eq_1) (And.intro (exK_head q37_3.eq_1) (And.intro (exK_head q37_4.eq_1) (And.intro (exK_head q37_5.eq_1) (And.intro (exK_head q37_6.eq_1) (And.intro (exK_head q37_7.eq_1) (And.intro (exK_head q37_8.eq_1) (exK_head q37_9.eq_1))))))))))
def ann37:Ann:={ n:=32,own:=[],lv:=[(0,[0]),(1,[0,3]),(2,[0,3,8]),(3,[0,3]),(4,[0,3,4]),(5,[0,3,4,16]),(6,[0,3,4]),(7,[0,3,4]),(8,[4,28]),(9,[2]),(10,[2])],lp:=[(5,[0,3,4])] }
def fn37:AFn:=AFn.mk 1 [.tmp 2]
 (.seq (.region [
 ob 2 (.mv (.cst (.str [])))] false [0]) q37_9)
theorem ok37:compFn Tryz.prog ann37 Tryz.f37=some fn37:=by kernel_rfl
def q70_0:ACode :=
 (.seq (.region [
 ob 5 (.mv (.tmp 0)),
 ob 6 (.b2s (.tmp 5)),
 ob 7 (.mv (.tmp 1)),
 ob 8 (.b2s (.tmp 7)),
 ob 9 (.bin .eql (.tmp 6) (.tmp 8)),
 ob 4 (.mv (.tmp 9))] false [4]) (.ret))
def ann70:Ann:={ n:=10,own:=[],lv:=[(0,[0,1]),(1,[4])],lp:=[] }
def fn70:AFn:=AFn.mk 2 [.tmp 4]
 (.seq (.region [
 ob 4 (.mv (.cst (.bool false)))] false [0,1]) q70_0)
theorem ok70:compFn Tryz.prog ann70 Tryz.f70=some fn70:=by kernel_rfl
def q71_0:ACode :=
 (.seq (.region [
 ob 3 (.mv (.tmp 0)),
 ob 4 (.bin .geq (.tmp 3) (.cst (.int .u8 97))),
 ob 5 (.mv (.tmp 4)),
 og 6 5 true (.mv (.tmp 0)),
 og 7 5 true (.bin .leq (.tmp 6) (.cst (.int .u8 122))),
 ob 8 (.pick (.tmp 5) (.tmp 7) (.cst (.bool false))),
 ob 9 (.mv (.tmp 8)),
 og 10 9 false (.mv (.tmp 0)),
 og 11 9 false (.bin .geq (.tmp 10) (.cst (.int .u8 65))),
 og 12 9 false (.mv (.tmp 11)),
 og 13 12 true (.mv (.tmp 0)),
 og 14 12 true (.bin .leq (.tmp 13) (.cst (.int .u8 90))),
 og 15 9 false (.pick (.tmp 12) (.tmp 14) (.cst (.bool false))),
 ob 16 (.pick (.tmp 9) (.cst (.bool true)) (.tmp 15)),
 ob 17 (.mv (.tmp 16)),
 og 18 17 false (.mv (.tmp 0)),
 og 19 17 false (.bin .geq (.tmp 18) (.cst (.int .u8 48))),
 og 20 17 false (.mv (.tmp 19)),
 og 21 20 true (.mv (.tmp 0)),
 og 22 20 true (.bin .leq (.tmp 21) (.cst (.int .u8 57))),
 og 23 17 false (.pick (.tmp 20) (.tmp 22) (.cst (.bool false))),
 ob 24 (.pick (.tmp 17) (.cst (.bool true)) (.tmp 23)),
 ob 25 (.mv (.tmp 24)),
 og 26 25 false (.mv (.tmp 0)),
 og 27 25 false (.bin .eql (.tmp 26) (.cst (.int .u8 47))),
 ob 28 (.pick (.tmp 25) (.cst (.bool true)) (.tmp 27)),
 ob 29 (.mv (.tmp 28)),
 og 30 29 false (.mv (.tmp 0)),
 og 31 29 false (.bin .eql (.tmp 30) (.cst (.int .u8 46))),
 ob 32 (.pick (.tmp 29) (.cst (.bool true)) (.tmp 31)),
 ob 33 (.mv (.tmp 32)),
 og 34 33 false (.mv (.tmp 0)),
 og 35 33 false (.bin .eql (.tmp 34) (.cst (.int .u8 95))),
 ob 36 (.pick (.tmp 33) (.cst (.bool true)) (.tmp 35)),
 ob 37 (.mv (.tmp 36)),
 og 38 37 false (.mv (.tmp 0)),
 og 39 37 false (.bin .eql (.tmp 38) (.cst (.int .u8 45))),
 ob 40 (.pick (.tmp 37) (.cst (.bool true)) (.tmp 39)),
 ob 2 (.mv (.tmp 40))] false [2]) (.ret))
def ann71:Ann:={ n:=41,own:=[],lv:=[(0,[0]),(1,[2])],lp:=[] }
def fn71:AFn:=AFn.mk 1 [.tmp 2]
 (.seq (.region [
 ob 2 (.mv (.cst (.bool false)))] false [0]) q71_0)
theorem ok71:compFn Tryz.prog ann71 Tryz.f71=some fn71:=by kernel_rfl
def q72_0:ACode :=
 (.seq (.region [
 ob 9 (.mv (.tmp 0)),
 ob 10 (.conv .i64 (.tmp 9)),
 ob 11 (.bin .sub (.tmp 10) (.cst (.int .i64 48))),
 ob 2 (.mv (.tmp 11))] false [2]) (.ret))
def q72_1:ACode :=
 (.seq (.region [
 ob 18 (.mv (.tmp 0)),
 ob 19 (.conv .i64 (.tmp 18)),
 ob 20 (.bin .sub (.tmp 19) (.cst (.int .i64 87))),
 ob 2 (.mv (.tmp 20))] false [2]) (.ret))
def q72_2:ACode :=
 (.seq (.region [
 ob 2 (.mv (.cst (.int .i64 (-1))))] false [2]) (.ret))
def q72_3:ACode :=
 (.seq (.seq (.region [
 ob 12 (.mv (.tmp 0)),
 ob 13 (.bin .geq (.tmp 12) (.cst (.int .u8 97))),
 ob 14 (.mv (.tmp 13)),
 og 15 14 true (.mv (.tmp 0)),
 og 16 14 true (.bin .leq (.tmp 15) (.cst (.int .u8 102))),
 ob 17 (.pick (.tmp 14) (.tmp 16) (.cst (.bool false)))] false [0,17]) (.cond (.tmp 17) q72_1 (.skip))) q72_2)
def q72_4:ACode :=
 (.seq (.seq (.region [
 ob 3 (.mv (.tmp 0)),
 ob 4 (.bin .geq (.tmp 3) (.cst (.int .u8 48))),
 ob 5 (.mv (.tmp 4)),
 og 6 5 true (.mv (.tmp 0)),
 og 7 5 true (.bin .leq (.tmp 6) (.cst (.int .u8 57))),
 ob 8 (.pick (.tmp 5) (.tmp 7) (.cst (.bool false)))] false [0,8]) (.cond (.tmp 8) q72_0 (.skip))) q72_3)
def ann72:Ann:={ n:=21,own:=[],lv:=[(0,[0]),(1,[0,8]),(2,[2]),(3,[0,17]),(4,[2]),(5,[2])],lp:=[] }
def fn72:AFn:=AFn.mk 1 [.tmp 2]
 (.seq (.region [
 ob 2 (.mv (.cst (.int .i64 0)))] false [0]) q72_4)
theorem ok72:compFn Tryz.prog ann72 Tryz.f72=some fn72:=by kernel_rfl
end Go.Proofs.YtannopdcbocngaaGreatDoor
set_option linter.defProp false
namespace Go.Proofs.YtannopdcbocngaaGreatDoor
open Go Go.Abs
def q10_0:ACode :=
 (.seq (.region [
 ob 0 (.mv (.cst (.bool false)))] false [0]) (.ret))
def q10_1:ACode :=
 (.seq (.region [
 ob 45 (.loadA 8 (.tmp 1)),
 ob 46 (.call 15 [(.tmp 45)]),
 ob 47 (.bin .eql (.tmp 46) (.cst (.str [109,97,107,101,32,99,108,105,101,110,116,61,51,32,112,97,116,104,61,47,97,37,50,48,98,32,110,61,50]))),
 ob 48 (.mv (.tmp 47)),
 og 49 48 true (.build [(.int .i64 0),(.int .i64 0),(.int .i64 0),(.int .i64 0),(.int .i64 0),(.slice .c0 []),(.slice .c0 [])] [(0,1,(.cst (.int .i64 70)))]),
 og 50 48 true (.call 17 [(.tmp 49)]),
 og 51 48 true (.bin .eql (.tmp 50) (.cst (.str [101,114,114,111,114,55,48]))),
 ob 52 (.pick (.tmp 48) (.tmp 51) (.cst (.bool false))),
 ob 53 (.mv (.tmp 52)),
 og 54 53 true (.lits 1 [(.cst (.str [120])),(.cst (.str []))]),
 og 55 53 true (.build [(.int .i64 0),(.int .i64 0),(.int .i64 0),(.int .i64 0),(.int .i64 0),(.slice .c0 []),(.slice .c0 [])] [(1,1,(.cst (.int .i64 4))),(5,1,(.tmp 54))]),
 og 56 53 true (.call 17 [(.tmp 55)]),
 og 57 53 true (.bin .eql (.tmp 56) (.cst (.str [111,107,32,105,110,111,61,52,32,110,97,109,101,115,61,120,44]))),
 ob 58 (.pick (.tmp 53) (.tmp 57) (.cst (.bool false))),
 ob 59 (.mv (.tmp 58)),
 og 60 59 true (.loadA 8 (.tmp 2)),
 og 61 59 true (.loadA 8 (.tmp 1)),
 og 62 59 true (.call 30 [(.tmp 60),(.tmp 61)]),
 ob 63 (.pick (.tmp 59) (.tmp 62) (.cst (.bool false))),
 ob 64 (.mv (.tmp 63)),
 og 65 64 true (.mv (.tmp 3)),
 og 66 64 true (.bin .eql (.tmp 65) (.cst (.int .i64 0))),
 ob 67 (.pick (.tmp 64) (.tmp 66) (.cst (.bool false))),
 ob 68 (.mv (.tmp 67)),
 og 69 68 true (.mv (.tmp 5)),
 og 70 68 true (.bin .eql (.tmp 69) (.cst (.int .i64 11))),
 ob 71 (.pick (.tmp 68) (.tmp 70) (.cst (.bool false))),
 ob 72 (.mv (.tmp 71)),
 og 73 72 true (.mv (.tmp 7)),
 og 74 72 true (.bin .eql (.tmp 73) (.cst (.int .i64 11))),
 ob 75 (.pick (.tmp 72) (.tmp 74) (.cst (.bool false))),
 ob 76 (.mv (.tmp 75)),
 og 77 76 true (.loadA 7 (.tmp 8)),
 og 78 76 true (.lits 1 [(.cst (.str [120])),(.cst (.str []))]),
 og 79 76 true (.build [(.int .i64 0),(.int .i64 0),(.int .i64 0),(.int .i64 0),(.int .i64 0),(.slice .c0 []),(.slice .c0 [])] [(1,1,(.cst (.int .i64 4))),(5,1,(.tmp 78))]),
 og 80 76 true (.call 31 [(.tmp 77),(.tmp 79)]),
 ob 81 (.pick (.tmp 76) (.tmp 80) (.cst (.bool false))),
 ob 82 (.mv (.tmp 81)),
 og 83 82 true (.mv (.tmp 9)),
 og 84 82 true (.bin .eql (.tmp 83) (.cst (.int .i64 0))),
 ob 85 (.pick (.tmp 82) (.tmp 84) (.cst (.bool false))),
 ob 86 (.mv (.tmp 85)),
 og 87 86 true (.mv (.tmp 10)),
 og 88 86 true (.iaddr 17 (.tmp 87) (.cst (.int .i64 0))),
 og 89 86 true (.faddr 2 (.tmp 88)),
 og 90 86 true (.faddr 2 (.tmp 89)),
 og 91 86 true (.load1 (.tmp 90)),
 og 92 86 true (.bin .eql (.tmp 91) (.cst (.str [47]))),
 ob 93 (.pick (.tmp 86) (.tmp 92) (.cst (.bool false))),
 ob 94 (.mv (.tmp 93)),
 og 95 94 true (.mv (.tmp 10)),
 og 96 94 true (.iaddr 17 (.tmp 95) (.cst (.int .i64 1))),
 og 97 94 true (.faddr 10 (.tmp 96)),
 og 98 94 true (.faddr 0 (.tmp 97)),
 og 99 94 true (.load1 (.tmp 98)),
 og 100 94 true (.bin .eql (.tmp 99) (.cst (.int .i64 70))),
 ob 101 (.pick (.tmp 94) (.tmp 100) (.cst (.bool false))),
 ob 102 (.mv (.tmp 101)),
 og 103 102 true (.mv (.tmp 11)),
 og 104 102 true (.bin .eql (.tmp 103) (.cst (.int .i64 0))),
 ob 105 (.pick (.tmp 102) (.tmp 104) (.cst (.bool false))),
 ob 106 (.mv (.tmp 105)),
 og 107 106 true (.loadA 3 (.tmp 12)),
 og 108 106 true (.call 22 [(.tmp 107)]),
 og 109 106 true (.bin .eql (.tmp 108) (.cst (.str [47,32,100,105,114,32,49,10,47,97,37,50,48,98,32,102,105,108,101,32,50,32,108,105,110,107,115,61,49,10]))),
 ob 110 (.pick (.tmp 106) (.tmp 109) (.cst (.bool false))),
 ob 111 (.mv (.tmp 110)),
 og 112 111 true (.build [(.int .i64 0),(.int .i64 0),(.str []),(.str []),(.int .i64 0),(.int .i64 0),(.int .i64 0),(.slice .c0 [])] [(0,1,(.cst (.int .i64 (-4))))]),
 og 113 111 true (.call 15 [(.tmp 112)]),
 og 114 111 true (.bin .eql (.tmp 113) (.cst (.str [111,112,45,52]))),
 ob 115 (.pick (.tmp 111) (.tmp 114) (.cst (.bool false))),
 ob 0 (.mv (.tmp 115))] false [0]) (.ret))
def q10_2:ACode :=
 (.seq (.seq (.region [
 ob 42 (.mv (.tmp 10)),
 ob 43 (.lenV (.tmp 42)),
 ob 44 (.bin .neq (.tmp 43) (.cst (.int .i64 2)))] false [1,2,3,5,7,8,9,10,11,12,44]) (.cond (.tmp 44) q10_0 (.skip))) q10_1)
def q10_3:ACode :=
 (.seq (.region [
 ob 37 (.call 39 []),
 ob 38 (.call 38 [(.tmp 37),(.cst (.int .i64 1)),(.cst (.str [97,32,98])),(.cst (.int .i64 1))]),
 ob 36 (.mv (.tmp 38)),
 ob 39 (.extract (.tmp 36) 0),
 ob 40 (.extract (.tmp 36) 1),
 ob 41 (.extract (.tmp 36) 2),
 ob 12 (.box0 [(.slice .c0 []),(.int .i64 0),(.int .i64 0)]),
 ox (.store 3 (.tmp 12) (.tmp 39)),
 ob 13 (.mv (.tmp 40)),
 ob 14 (.mv (.tmp 41))] false [1,2,3,5,7,8,9,10,11,12]) q10_2)
def q10_4:ACode :=
 (.seq (.region [
 ob 33 (.call 28 [(.cst (.str [98,101,103,105,110,32,49,58,32,108,111,111,107,32,112,97,116,104,61,47,10,101,110,100,32,49,58,32,101,114,114,111,114,55,48,10]))]),
 ob 32 (.mv (.tmp 33)),
 ob 34 (.extract (.tmp 32) 0),
 ob 35 (.extract (.tmp 32) 1),
 ob 10 (.mv (.tmp 34)),
 ob 11 (.mv (.tmp 35))] false [1,2,3,5,7,8,9,10,11]) q10_3)
def q10_5:ACode :=
 (.seq (.region [
 ob 29 (.call 26 [(.cst (.str [111,107,32,105,110,111,61,52,32,110,97,109,101,115,61,120,44]))]),
 ob 28 (.mv (.tmp 29)),
 ob 30 (.extract (.tmp 28) 0),
 ob 31 (.extract (.tmp 28) 1),
 ob 8 (.box0 [(.int .i64 0),(.int .i64 0),(.int .i64 0),(.int .i64 0),(.int .i64 0),(.slice .c0 []),(.slice .c0 [])]),
 ox (.store 7 (.tmp 8) (.tmp 30)),
 ob 9 (.mv (.tmp 31))] false [1,2,3,5,7,8,9]) q10_4)
def q10_6:ACode :=
 (.seq (.region [
 ob 25 (.call 24 [(.cst (.str [109,97,107,101,32,99,108,105,101,110,116,61,48,51]))]),
 ob 24 (.mv (.tmp 25)),
 ob 26 (.extract (.tmp 24) 0),
 ob 27 (.extract (.tmp 24) 1),
 ob 6 (.box0 [(.int .i64 0),(.int .i64 0),(.str []),(.str []),(.int .i64 0),(.int .i64 0),(.int .i64 0),(.slice .c0 [])]),
 ox (.store 8 (.tmp 6) (.tmp 26)),
 ob 7 (.mv (.tmp 27))] false [1,2,3,5,7]) q10_5)
def q10_7:ACode :=
 (.seq (.region [
 ob 21 (.call 24 [(.cst (.str [109,97,107,101,32,112,97,116,104,61,47,97,32,99,108,105,101,110,116,61,51]))]),
 ob 20 (.mv (.tmp 21)),
 ob 22 (.extract (.tmp 20) 0),
 ob 23 (.extract (.tmp 20) 1),
 ob 4 (.box0 [(.int .i64 0),(.int .i64 0),(.str []),(.str []),(.int .i64 0),(.int .i64 0),(.int .i64 0),(.slice .c0 [])]),
 ox (.store 8 (.tmp 4) (.tmp 22)),
 ob 5 (.mv (.tmp 23))] false [1,2,3,5]) q10_6)
def q10_8:ACode :=
 (.seq (.region [
 ob 17 (.call 24 [(.cst (.str [109,97,107,101,32,99,108,105,101,110,116,61,51,32,112,97,116,104,61,47,97,37,50,48,98,32,110,61,50]))]),
 ob 16 (.mv (.tmp 17)),
 ob 18 (.extract (.tmp 16) 0),
 ob 19 (.extract (.tmp 16) 1),
 ob 2 (.box0 [(.int .i64 0),(.int .i64 0),(.str []),(.str []),(.int .i64 0),(.int .i64 0),(.int .i64 0),(.slice .c0 [])]),
 ox (.store 8 (.tmp 2) (.tmp 18)),
 ob 3 (.mv (.tmp 19))] false [1,2,3]) q10_7)
def q10_9:ACode :=
 (.seq (.region [
 ob 15 (.build [(.int .i64 0),(.int .i64 0),(.str []),(.str []),(.int .i64 0),(.int .i64 0),(.int .i64 0),(.slice .c0 [])] [(0,1,(.cst (.int .i64 2))),(1,1,(.cst (.int .i64 3))),(2,1,(.cst (.str [47,97,32,98]))),(4,1,(.cst (.int .i64 2)))]),
 ob 1 (.box0 [(.int .i64 0),(.int .i64 0),(.str []),(.str []),(.int .i64 0),(.int .i64 0),(.int .i64 0),(.slice .c0 [])]),
 ox (.store 8 (.tmp 1) (.tmp 15))] false [1]) q10_8)
def ann10:Ann:={ n:=116,own:=[],lv:=[(0,[]),(1,[1]),(2,[1,2,3]),(3,[1,2,3,5]),(4,[1,2,3,5,7]),(5,[1,2,3,5,7,8,9]),(6,[1,2,3,5,7,8,9,10,11]),(7,[1,2,3,5,7,8,9,10,11,12]),(8,[1,2,3,5,7,8,9,10,11,12,44]),(9,[0]),(10,[0])],lp:=[] }
def fn10:AFn:=AFn.mk 0 [.tmp 0]
 (.seq (.region [
 ob 0 (.mv (.cst (.bool false)))] false []) q10_9)
theorem ok10:compFn Tryz.prog ann10 Tryz.f10=some fn10:=by kernel_rfl
end Go.Proofs.YtannopdcbocngaaGreatDoor
set_option linter.defProp false
namespace Go.Proofs.YtannopdcbocngaaGreatDoor
open Go Go.Abs
def q22_0:ACode :=
 (.region [
 ob 18 (.mv (.tmp 3)),
 ob 19 (.chk (.tmp 18)),
 ob 20 (.faddr 2 (.tmp 19)),
 ob 21 (.load1 (.tmp 20)),
 ob 22 (.faddr 0 (.tmp 5)),
 ob 23 (.load1 (.tmp 22)),
 ob 24 (.loadA 6 (.tmp 5)),
 ox (.upd .i (.tmp 21) (.tmp 23) (.tmp 24))] true [1,3,12,13,14])
def q22_1:ACode :=
 (.region [
 ob 25 (.bin .add (.tmp 14) (.cst (.int .i64 1))),
 ob 14 (.mv (.tmp 25))] false [1,3,12,13,14])
def q22_2:ACode :=
 (.seq (.block 1 (.seq (.region [
 ob 16 (.iaddr 6 (.tmp 12) (.tmp 14)),
 ob 17 (.loadA 6 (.tmp 16)),
 ob 5 (.box0 [(.int .i64 0),(.int .i64 0),(.int .i64 0),(.slice .c0 []),(.slice .c0 []),(.int .i64 0)]),
 ox (.store 6 (.tmp 5) (.tmp 17))] false [1,3,5,12,13,14]) q22_0)) q22_1)
def q22_3:ACode :=
 (.seq (.cond (.tmp 15) (.skip) (.exit 0)) q22_2)
def lb22_0:ACode :=
 (.seq (.region [
 ob 15 (.bin .lss (.tmp 14) (.tmp 13))] false [1,3,12,13,14,15]) q22_3)
def q22_4:ACode :=
 (.block 0 (.loop [1,3,12,13,14] lb22_0))
def q22_5:ACode :=
 (.region [
 ob 47 (.mv (.tmp 3)),
 ob 48 (.loadA 6 (.tmp 7)),
 ob 49 (.call 53 [(.tmp 47),(.cst (.str [45])),(.tmp 48)])] false [3,33,34,35])
def q22_6:ACode :=
 (.seq (.region [
 ob 39 (.faddr 1 (.tmp 7)),
 ob 40 (.load1 (.tmp 39)),
 ob 41 (.bin .eql (.tmp 40) (.cst (.int .i64 1))),
 ob 42 (.mv (.tmp 41)),
 og 43 42 true (.faddr 2 (.tmp 7)),
 og 44 42 true (.load1 (.tmp 43)),
 og 45 42 true (.bin .eql (.tmp 44) (.cst (.int .i64 0))),
 ob 46 (.pick (.tmp 42) (.tmp 45) (.cst (.bool false)))] false [3,7,33,34,35,46]) (.cond (.tmp 46) q22_5 (.skip)))
def q22_7:ACode :=
 (.region [
 ob 50 (.bin .add (.tmp 35) (.cst (.int .i64 1))),
 ob 35 (.mv (.tmp 50))] false [3,33,34,35])
def q22_8:ACode :=
 (.seq (.block 3 (.seq (.region [
 ob 37 (.iaddr 6 (.tmp 33) (.tmp 35)),
 ob 38 (.loadA 6 (.tmp 37)),
 ob 7 (.box0 [(.int .i64 0),(.int .i64 0),(.int .i64 0),(.slice .c0 []),(.slice .c0 []),(.int .i64 0)]),
 ox (.store 6 (.tmp 7) (.tmp 38))] false [3,7,33,34,35]) q22_6)) q22_7)
def q22_9:ACode :=
 (.seq (.cond (.tmp 36) (.skip) (.exit 2)) q22_8)
def lb22_1:ACode :=
 (.seq (.region [
 ob 36 (.bin .lss (.tmp 35) (.tmp 34))] false [3,33,34,35,36]) q22_9)
def q22_10:ACode :=
 (.seq (.region [
 ob 51 (.mv (.tmp 3)),
 ob 52 (.chk (.tmp 51)),
 ob 53 (.faddr 0 (.tmp 52)),
 ob 54 (.call 51 [(.tmp 53)]),
 ob 2 (.mv (.tmp 54))] false [2]) (.ret))
def q22_11:ACode :=
 (.seq (.seq (.region [
 ob 32 (.faddr 0 (.tmp 1)),
 ob 33 (.load1 (.tmp 32)),
 ob 34 (.lenV (.tmp 33)),
 ob 35 (.mv (.cst (.int .i64 0)))] false [3,33,34,35]) (.block 2 (.loop [3,33,34,35] lb22_1))) q22_10)
def q22_12:ACode :=
 (.seq (.region [
 ob 30 (.mv (.tmp 3)),
 ob 31 (.call 52 [(.tmp 30),(.cst (.int .i64 1)),(.cst (.str []))])] false [1,3]) q22_11)
def q22_13:ACode :=
 (.seq (.region [
 ob 26 (.mv (.tmp 3)),
 ob 27 (.chk (.tmp 26)),
 ob 28 (.faddr 0 (.tmp 27)),
 ob 29 (.call 50 [(.tmp 28),(.cst (.str [47,32,100,105,114,32,49,10]))])] false [1,3]) q22_12)
def q22_14:ACode :=
 (.seq (.seq (.region [
 ob 11 (.faddr 0 (.tmp 1)),
 ob 12 (.load1 (.tmp 11)),
 ob 13 (.lenV (.tmp 12)),
 ob 14 (.mv (.cst (.int .i64 0)))] false [1,3,12,13,14]) q22_4) q22_13)
def q22_15:ACode :=
 (.seq (.region [
 ob 8 (.mkMap),
 ob 9 (.build [(.raw (.pointer none)),(.slice .c0 []),(.raw (.map none))] [(2,1,(.tmp 8))]),
 ob 10 (.boxW 96 5 (.tmp 9)),
 ob 3 (.mv (.tmp 10))] false [1,3]) q22_14)
def E22:=And.intro (exK_head q22_0.eq_1) (And.intro (exK_head q22_1.eq_1) (And.intro (exK_head q22_2.eq_1) (And.intro (exK_head q22_3.eq_1) (And.intro (exK_head lb22_0.eq_1) (And.intro (exK_head q22_4.eq_1) (And.intro (exK_head q22_5.eq_1) (And.intro (exK_head q22_6.eq_1) (And.intro (exK_head q22_7.eq_1) (And.intro (exK_head q22_8.eq_1) (And.intro (exK_head q22_9.eq_1) (And.intro (exK_head lb22_1.eq_1) (And.intro (exK_head q22_10.eq_1) (And.intro (exK_head q22_11.eq_1) (And.intro (exK_head q22_12.eq_1) (And.intro (exK_head q22_13.eq_1) (And.intro (exK_head q22_14.eq_1) (exK_head q22_15.eq_1)))))))))))))))))
def ann22:Ann:={ n:=55,own:=[3000010],lv:=[(0,[1]),(1,[1,3]),(2,[1,3,12,13,14]),(3,[1,3,12,13,14,15]),(4,[1,3,5,12,13,14]),(5,[1,3,12,13,14]),(6,[1,3,12,13,14]),(7,[1,3]),(8,[1,3]),(9,[3,33,34,35]),(10,[3,33,34,35,36]),(11,[3,7,33,34,35]),(12,[3,7,33,34,35,46]),(13,[3,33,34,35]),(14,[3,33,34,35]),(15,[2])],lp:=[(3,[1,3,12,13,14]),(10,[3,33,34,35])] }
def fn22:AFn:=AFn.mk 1 [.tmp 2]
 (.seq (.region [
 ob 1 (.box (.tmp 0)),
 ob 2 (.mv (.cst (.str [])))] false [1]) q22_15)
theorem ok22:compFn Tryz.prog ann22 Tryz.f22=some fn22:=by kernel_rfl
def q52_0:ACode :=
 (.seq (.region [
 ob 49 (.mv (.tmp 0)),
 ob 50 (.faddr 0 (.tmp 8)),
 ob 51 (.load1 (.tmp 50)),
 ob 52 (.mv (.tmp 9)),
 ob 53 (.call 52 [(.tmp 49),(.tmp 51),(.tmp 52)])] false [0,2,16,17,18]) (.exit 1))
def q52_1:ACode :=
 (.seq (.region [
 ob 37 (.mv (.tmp 0)),
 ob 38 (.chk (.tmp 37)),
 ob 39 (.faddr 0 (.tmp 38)),
 ob 40 (.mv (.tmp 9)),
 ⟨(some 41),.call 44 [(.tmp 40)],none,true,false,[]⟩,
 ob 42 (.bin .add (.tmp 41) (.cst (.str [32,100,105,114,32]))),
 ob 43 (.faddr 0 (.tmp 8)),
 ob 44 (.load1 (.tmp 43)),
 ob 45 (.call 42 [(.tmp 44)]),
 ob 46 (.bin .add (.tmp 42) (.tmp 45)),
 ob 47 (.bin .add (.tmp 46) (.cst (.str [10]))),
 ob 48 (.call 50 [(.tmp 39),(.tmp 47)])] true [0,2,8,9,16,17,18]) q52_0)
def q52_2:ACode :=
 (.region [
 ob 54 (.mv (.tmp 0)),
 ob 55 (.mv (.tmp 9)),
 ⟨(some 56),.call 44 [(.tmp 55)],none,true,false,[]⟩,
 ob 57 (.loadA 6 (.tmp 8)),
 ob 58 (.call 53 [(.tmp 54),(.tmp 56),(.tmp 57)])] true [0,2,16,17,18])
def q52_3:ACode :=
 (.seq (.seq (.region [
 ob 34 (.faddr 1 (.tmp 8)),
 ob 35 (.load1 (.tmp 34)),
 ob 36 (.bin .eql (.tmp 35) (.cst (.int .i64 2)))] false [0,2,8,9,16,17,18,36]) (.cond (.tmp 36) q52_1 (.skip))) q52_2)
def q52_4:ACode :=
 (.seq (.region [
 ob 22 (.mv (.tmp 0)),
 ob 23 (.chk (.tmp 22)),
 ob 24 (.faddr 2 (.tmp 23)),
 ob 25 (.load1 (.tmp 24)),
 ob 26 (.faddr 1 (.tmp 7)),
 ob 27 (.load1 (.tmp 26)),
 ob 28 (.look .i (.agg [(.int .i64 0),(.int .i64 0),(.int .i64 0),(.slice .c0 []),(.slice .c0 []),(.int .i64 0)]) false (.tmp 25) (.tmp 27)),
 ob 29 (.mv (.tmp 2)),
 ob 30 (.bin .add (.tmp 29) (.cst (.str [47]))),
 ob 31 (.faddr 0 (.tmp 7)),
 ob 32 (.load1 (.tmp 31)),
 ob 33 (.bin .add (.tmp 30) (.tmp 32)),
 ⟨(some 8),.box0 [(.int .i64 0),(.int .i64 0),(.int .i64 0),(.slice .c0 []),(.slice .c0 []),(.int .i64 0)],none,true,false,[]⟩,
 ⟨none,.store 6 (.tmp 8) (.tmp 28),none,true,false,[31]⟩,
 ob 9 (.mv (.tmp 33))] true [0,2,8,9,16,17,18]) q52_3)
def q52_5:ACode :=
 (.region [
 ob 59 (.bin .add (.tmp 18) (.cst (.int .i64 1))),
 ob 18 (.mv (.tmp 59))] false [0,2,16,17,18])
def q52_6:ACode :=
 (.seq (.block 1 (.seq (.region [
 ob 20 (.iaddr 3 (.tmp 16) (.tmp 18)),
 ob 21 (.loadA 3 (.tmp 20)),
 ob 7 (.box0 [(.str []),(.int .i64 0),(.int .i64 0)]),
 ox (.store 3 (.tmp 7) (.tmp 21))] false [0,2,7,16,17,18]) q52_4)) q52_5)
def q52_7:ACode :=
 (.seq (.cond (.tmp 19) (.skip) (.exit 0)) q52_6)
def lb52_0:ACode :=
 (.seq (.region [
 ob 19 (.bin .lss (.tmp 18) (.tmp 17))] false [0,2,16,17,18,19]) q52_7)
def q52_8:ACode :=
 (.block 0 (.loop [0,2,16,17,18] lb52_0))
def E52:=And.intro (exK_head q52_0.eq_1) (And.intro (exK_head q52_1.eq_1) (And.intro (exK_head q52_2.eq_1) (And.intro (exK_head q52_3.eq_1) (And.intro (exK_head q52_4.eq_1) (And.intro (exK_head q52_5.eq_1) (And.intro (exK_head q52_6.eq_1) (And.intro (exK_head q52_7.eq_1) (And.intro (exK_head lb52_0.eq_1) (exK_head q52_8.eq_1)))))))))
def ann52:Ann:={ n:=60,own:=[],lv:=[(0,[0,2,16,17,18]),(1,[0,2,16,17,18,19]),(2,[0,2,7,16,17,18]),(3,[0,2,8,9,16,17,18]),(4,[0,2,8,9,16,17,18,36]),(5,[0,2,8,9,16,17,18]),(6,[0,2,16,17,18]),(7,[0,2,16,17,18]),(8,[0,2,16,17,18])],lp:=[(1,[0,2,16,17,18])] }
def fn52:AFn:=AFn.mk 3 []
 (.seq (.region [
 ob 10 (.mv (.tmp 0)),
 ob 11 (.chk (.tmp 10)),
 ob 12 (.faddr 2 (.tmp 11)),
 ob 13 (.load1 (.tmp 12)),
 ob 14 (.mv (.tmp 1)),
 ob 15 (.look .i (.agg [(.int .i64 0),(.int .i64 0),(.int .i64 0),(.slice .c0 []),(.slice .c0 []),(.int .i64 0)]) false (.tmp 13) (.tmp 14)),
 ob 16 (.field1 4 (.tmp 15)),
 ob 17 (.lenV (.tmp 16)),
 ob 18 (.mv (.cst (.int .i64 0)))] false [0,2,16,17,18]) q52_8)
theorem ok52:compFn Tryz.prog ann52 Tryz.f52=some fn52:=by kernel_rfl
def q53_0:ACode :=
 (.region [
 ob 6 (.mv (.tmp 0)),
 ob 7 (.chk (.tmp 6)),
 ob 8 (.faddr 0 (.tmp 7)),
 ob 9 (.mv (.tmp 1)),
 ob 10 (.bin .add (.tmp 9) (.cst (.str [32,102,105,108,101,32]))),
 ob 11 (.faddr 0 (.tmp 5)),
 ob 12 (.load1 (.tmp 11)),
 ⟨(some 13),.call 42 [(.tmp 12)],none,true,false,[]⟩,
 ob 14 (.bin .add (.tmp 10) (.tmp 13)),
 ob 15 (.faddr 2 (.tmp 5)),
 ob 16 (.load1 (.tmp 15)),
 ob 17 (.build [(.str []),(.int .i64 0),(.str [])] [(0,1,(.cst (.str [108,105,110,107,115]))),(1,1,(.tmp 16)),(2,1,(.cst (.str [])))]),
 ob 18 (.faddr 3 (.tmp 5)),
 ob 19 (.load1 (.tmp 18)),
 ob 20 (.b2s (.tmp 19)),
 ⟨(some 21),.call 44 [(.tmp 20)],none,true,false,[]⟩,
 ob 22 (.build [(.str []),(.int .i64 0),(.str [])] [(0,1,(.cst (.str [100,97,116,97]))),(1,1,(.cst (.int .i64 0))),(2,1,(.tmp 21))]),
 ob 23 (.lits 3 [(.tmp 17),(.tmp 22)]),
 ob 24 (.call 43 [(.tmp 14),(.tmp 23)]),
 ob 25 (.bin .add (.tmp 24) (.cst (.str [10]))),
 ob 26 (.call 50 [(.tmp 8),(.tmp 25)])] true [])
def E53:=exK_head q53_0.eq_1
def ann53:Ann:={ n:=27,own:=[],lv:=[(0,[0,1,5]),(1,[])],lp:=[] }
def fn53:AFn:=AFn.mk 3 []
 (.seq (.region [
 ob 5 (.box (.tmp 2))] false [0,1,5]) q53_0)
theorem ok53:compFn Tryz.prog ann53 Tryz.f53=some fn53:=by kernel_rfl
def q35_0:ACode :=
 (.seq (.region [
 ob 18 (.mv (.tmp 7)),
 ob 4 (.mv (.cst (.int .i64 0))),
 ob 5 (.mv (.tmp 18))] false [4,5]) (.ret))
def q35_1:ACode :=
 (.seq (.region [
 ob 34 (.mv (.tmp 7)),
 ob 4 (.mv (.cst (.int .i64 0))),
 ob 5 (.mv (.tmp 34))] false [4,5]) (.ret))
def q35_2:ACode :=
 (.seq (.region [
 ob 32 (.mv (.tmp 7)),
 ob 33 (.bin .neq (.tmp 32) (.cst (.int .i64 0)))] false [2,7,8,19,20,21,33]) (.cond (.tmp 33) q35_1 (.skip)))
def q35_3:ACode :=
 (.seq (.region [
 ob 26 (.loadA 3 (.tmp 2)),
 ob 27 (.mv (.tmp 8)),
 ob 28 (.mv (.tmp 10)),
 ob 29 (.call 74 [(.tmp 26),(.tmp 27),(.tmp 28)]),
 ob 25 (.mv (.tmp 29)),
 ob 30 (.extract (.tmp 25) 0),
 ob 31 (.extract (.tmp 25) 1),
 ob 8 (.mv (.tmp 30)),
 ob 7 (.mv (.tmp 31))] false [2,7,8,19,20,21]) q35_2)
def q35_4:ACode :=
 (.region [
 ob 35 (.bin .add (.tmp 21) (.cst (.int .i64 1))),
 ob 21 (.mv (.tmp 35))] false [2,8,19,20,21])
def q35_5:ACode :=
 (.seq (.block 1 (.seq (.region [
 ob 23 (.iaddr 1 (.tmp 19) (.tmp 21)),
 ob 24 (.load1 (.tmp 23)),
 ob 10 (.mv (.tmp 24))] false [2,8,10,19,20,21]) q35_3)) q35_4)
def q35_6:ACode :=
 (.seq (.cond (.tmp 22) (.skip) (.exit 0)) q35_5)
def lb35_0:ACode :=
 (.seq (.region [
 ob 22 (.bin .lss (.tmp 21) (.tmp 20))] false [2,8,19,20,21,22]) q35_6)
def q35_7:ACode :=
 (.block 0 (.loop [2,8,19,20,21] lb35_0))
def q35_8:ACode :=
 (.seq (.region [
 ob 36 (.mv (.tmp 8)),
 ob 4 (.mv (.tmp 36)),
 ob 5 (.mv (.cst (.int .i64 0)))] false [4,5]) (.ret))
def q35_9:ACode :=
 (.seq (.seq (.region [
 ob 19 (.mv (.tmp 6)),
 ob 20 (.lenV (.tmp 19)),
 ob 21 (.mv (.cst (.int .i64 0)))] false [2,8,19,20,21]) q35_7) q35_8)
def q35_10:ACode :=
 (.seq (.region [
 ob 8 (.mv (.cst (.int .i64 1)))] false [2,6,8]) q35_9)
def q35_11:ACode :=
 (.seq (.seq (.region [
 ob 16 (.mv (.tmp 7)),
 ob 17 (.bin .neq (.tmp 16) (.cst (.int .i64 0)))] false [2,6,7,17]) (.cond (.tmp 17) q35_0 (.skip))) q35_10)
def q35_12:ACode :=
 (.seq (.region [
 ob 12 (.mv (.tmp 1)),
 ob 13 (.call 73 [(.tmp 12)]),
 ob 11 (.mv (.tmp 13)),
 ob 14 (.extract (.tmp 11) 0),
 ob 15 (.extract (.tmp 11) 1),
 ob 6 (.mv (.tmp 14)),
 ob 7 (.mv (.tmp 15))] false [2,6,7]) q35_11)
def E35:=And.intro (exK_head q35_0.eq_1) (And.intro (exK_head q35_1.eq_1) (And.intro (exK_head q35_2.eq_1) (And.intro (exK_head q35_3.eq_1) (And.intro (exK_head q35_4.eq_1) (And.intro (exK_head q35_5.eq_1) (And.intro (exK_head q35_6.eq_1) (And.intro (exK_head lb35_0.eq_1) (And.intro (exK_head q35_7.eq_1) (And.intro (exK_head q35_8.eq_1) (And.intro (exK_head q35_9.eq_1) (And.intro (exK_head q35_10.eq_1) (And.intro (exK_head q35_11.eq_1) (exK_head q35_12.eq_1)))))))))))))
def ann35:Ann:={ n:=37,own:=[],lv:=[(0,[1,2]),(1,[2,6,7]),(2,[2,6,7,17]),(3,[4,5]),(4,[2,6,8]),(5,[2,8,19,20,21]),(6,[2,8,19,20,21,22]),(7,[2,8,10,19,20,21]),(8,[2,7,8,19,20,21]),(9,[2,7,8,19,20,21,33]),(10,[4,5]),(11,[2,8,19,20,21]),(12,[4,5])],lp:=[(6,[2,8,19,20,21])] }
def fn35:AFn:=AFn.mk 2 [.tmp 4,.tmp 5]
 (.seq (.region [
 ob 2 (.box (.tmp 0)),
 ob 4 (.mv (.cst (.int .i64 0))),
 ob 5 (.mv (.cst (.int .i64 0)))] false [1,2]) q35_12)
theorem ok35:compFn Tryz.prog ann35 Tryz.f35=some fn35:=by kernel_rfl
def q36_0:ACode :=
 (.seq (.region [
 ob 6 (.loadA 3 (.tmp 2)),
 ob 7 (.build [(.slice .c0 []),(.int .i64 0),(.int .i64 0)] [(0,3,(.tmp 6))]),
 ob 8 (.box (.tmp 7)),
 ob 9 (.mv (.tmp 1)),
 ob 10 (.call 75 [(.tmp 8),(.tmp 9)]),
 ob 11 (.extract (.tmp 10) 0),
 ob 12 (.extract (.tmp 10) 1),
 ox (.store 6 (.tmp 4) (.tmp 11)),
 ob 5 (.mv (.tmp 12))] false [4,5]) (.ret))
def E36:=exK_head q36_0.eq_1
def ann36:Ann:={ n:=13,own:=[],lv:=[(0,[1,2,4]),(1,[4,5])],lp:=[] }
def fn36:AFn:=AFn.mk 2 [.cellA 4 6,.tmp 5]
 (.seq (.region [
 ob 2 (.box (.tmp 0)),
 ob 4 (.box0 [(.int .i64 0),(.int .i64 0),(.int .i64 0),(.slice .c0 []),(.slice .c0 []),(.int .i64 0)]),
 ob 5 (.mv (.cst (.bool false)))] false [1,2,4]) q36_0)
theorem ok36:compFn Tryz.prog ann36 Tryz.f36=some fn36:=by kernel_rfl
def q38_0:ACode :=
 (.seq (.region [
 ob 20 (.loadA 3 (.tmp 4)),
 ox (.store 3 (.tmp 8) (.tmp 20)),
 ob 9 (.mv (.cst (.int .i64 0))),
 ob 10 (.mv (.cst (.int .i64 1)))] false [8,9,10]) (.ret))
def q38_1:ACode :=
 (.seq (.region [
 ob 30 (.loadA 3 (.tmp 4)),
 ob 31 (.mv (.tmp 12)),
 ox (.store 3 (.tmp 8) (.tmp 30)),
 ob 9 (.mv (.cst (.int .i64 0))),
 ob 10 (.mv (.tmp 31))] false [8,9,10]) (.ret))
def q38_2:ACode :=
 (.seq (.region [
 ob 28 (.mv (.tmp 12)),
 ob 29 (.bin .neq (.tmp 28) (.cst (.int .i64 0)))] false [1,2,3,4,8,11,12,29]) (.cond (.tmp 29) q38_1 (.skip)))
def q38_3:ACode :=
 (.seq (.region [
 ob 47 (.loadA 3 (.tmp 4)),
 ox (.store 3 (.tmp 8) (.tmp 47)),
 ob 9 (.mv (.cst (.int .i64 0))),
 ob 10 (.mv (.cst (.int .i64 76)))] false [8,9,10]) (.ret))
def q38_4:ACode :=
 (.region [
 ob 57 (.mv (.tmp 1)),
 ob 58 (.faddr 5 (.tmp 13)),
 ox (.store 1 (.tmp 58) (.tmp 57))] false [1,2,8,11,13])
def q38_5:ACode :=
 (.seq (.region [
 ob 77 (.mv (.tmp 11)),
 ob 78 (.chk (.tmp 77)),
 ob 79 (.faddr 0 (.tmp 78)),
 ob 80 (.loadA 3 (.tmp 79)),
 ob 81 (.faddr 0 (.tmp 13)),
 ob 82 (.load1 (.tmp 81)),
 ⟨none,.store 3 (.tmp 8) (.tmp 80),none,true,false,[81]⟩,
 ob 9 (.mv (.tmp 82)),
 ob 10 (.mv (.cst (.int .i64 0)))] true [8,9,10]) (.ret))
def q38_6:ACode :=
 (.seq (.region [
 ob 71 (.mv (.tmp 11)),
 ob 72 (.mv (.tmp 1)),
 ob 73 (.mv (.tmp 2)),
 ob 74 (.faddr 0 (.tmp 13)),
 ob 75 (.load1 (.tmp 74)),
 ob 76 (.call 78 [(.tmp 71),(.tmp 72),(.tmp 73),(.tmp 75)])] false [8,11,13]) q38_5)
def q38_7:ACode :=
 (.seq (.region [
 ob 68 (.mv (.tmp 11)),
 ob 69 (.loadA 6 (.tmp 13)),
 ob 70 (.call 77 [(.tmp 68),(.tmp 69)])] false [1,2,8,11,13]) q38_6)
def q38_8:ACode :=
 (.seq (.region [
 ob 59 (.mv (.tmp 11)),
 ob 60 (.chk (.tmp 59)),
 ob 61 (.faddr 0 (.tmp 60)),
 ob 62 (.faddr 1 (.tmp 61)),
 ob 63 (.load1 (.tmp 62)),
 ob 64 (.bin .add (.tmp 63) (.cst (.int .i64 1))),
 ob 65 (.chk (.tmp 59)),
 ob 66 (.faddr 0 (.tmp 65)),
 ob 67 (.faddr 1 (.tmp 66)),
 ox (.store 1 (.tmp 67) (.tmp 64))] false [1,2,8,11,13]) q38_7)
def q38_9:ACode :=
 (.seq (.seq (.region [
 ob 55 (.mv (.tmp 3)),
 ob 56 (.bin .eql (.tmp 55) (.cst (.int .i64 2)))] false [1,2,8,11,13,56]) (.cond (.tmp 56) q38_4 (.skip))) q38_8)
def q38_10:ACode :=
 (.seq (.region [
 ob 48 (.mv (.tmp 11)),
 ob 49 (.chk (.tmp 48)),
 ob 50 (.faddr 0 (.tmp 49)),
 ob 51 (.faddr 1 (.tmp 50)),
 ob 52 (.load1 (.tmp 51)),
 ob 53 (.mv (.tmp 3)),
 ob 54 (.build [(.int .i64 0),(.int .i64 0),(.int .i64 0),(.slice .c0 []),(.slice .c0 []),(.int .i64 0)] [(0,1,(.tmp 52)),(1,1,(.tmp 53)),(2,1,(.cst (.int .i64 1)))]),
 ob 13 (.box0 [(.int .i64 0),(.int .i64 0),(.int .i64 0),(.slice .c0 []),(.slice .c0 []),(.int .i64 0)]),
 ox (.store 6 (.tmp 13) (.tmp 54))] false [1,2,3,8,11,13]) q38_9)
def q38_11:ACode :=
 (.seq (.seq (.region [
 ob 32 (.mv (.tmp 11)),
 ob 33 (.chk (.tmp 32)),
 ob 34 (.faddr 0 (.tmp 33)),
 ob 35 (.faddr 0 (.tmp 34)),
 ob 36 (.load1 (.tmp 35)),
 ob 37 (.lenV (.tmp 36)),
 ob 38 (.bin .geq (.tmp 37) (.cst (.int .i64 200))),
 ob 39 (.mv (.tmp 38)),
 og 40 39 false (.mv (.tmp 11)),
 og 41 39 false (.chk (.tmp 40)),
 og 42 39 false (.faddr 0 (.tmp 41)),
 og 43 39 false (.faddr 1 (.tmp 42)),
 og 44 39 false (.load1 (.tmp 43)),
 og 45 39 false (.bin .geq (.tmp 44) (.cst (.int .i64 1099511627776))),
 ob 46 (.pick (.tmp 39) (.cst (.bool true)) (.tmp 45))] false [1,2,3,4,8,11,46]) (.cond (.tmp 46) q38_3 (.skip))) q38_10)
def q38_12:ACode :=
 (.seq (.seq (.region [
 ob 24 (.mv (.tmp 11)),
 ob 25 (.mv (.tmp 1)),
 ob 26 (.mv (.tmp 2)),
 ob 27 (.call 76 [(.tmp 24),(.tmp 25),(.tmp 26)]),
 ob 12 (.mv (.tmp 27))] false [1,2,3,4,8,11,12]) q38_2) q38_11)
def q38_13:ACode :=
 (.seq (.region [
 ob 21 (.loadA 3 (.tmp 4)),
 ob 22 (.build [(.slice .c0 []),(.int .i64 0),(.int .i64 0)] [(0,3,(.tmp 21))]),
 ob 23 (.box (.tmp 22)),
 ob 11 (.mv (.tmp 23))] false [1,2,3,4,8,11]) q38_12)
def q38_14:ACode :=
 (.seq (.seq (.region [
 ob 14 (.mv (.tmp 3)),
 ob 15 (.bin .neq (.tmp 14) (.cst (.int .i64 1))),
 ob 16 (.mv (.tmp 15)),
 og 17 16 true (.mv (.tmp 3)),
 og 18 16 true (.bin .neq (.tmp 17) (.cst (.int .i64 2))),
 ob 19 (.pick (.tmp 16) (.tmp 18) (.cst (.bool false)))] false [1,2,3,4,8,19]) (.cond (.tmp 19) q38_0 (.skip))) q38_13)
def ann38:Ann:={ n:=83,own:=[],lv:=[(0,[1,2,3,4,8]),(1,[1,2,3,4,8,19]),(2,[8,9,10]),(3,[1,2,3,4,8,11]),(4,[1,2,3,4,8,11,12]),(5,[1,2,3,4,8,11,12,29]),(6,[8,9,10]),(7,[1,2,3,4,8,11,46]),(8,[8,9,10]),(9,[1,2,3,8,11,13]),(10,[1,2,8,11,13,56]),(11,[1,2,8,11,13]),(12,[1,2,8,11,13]),(13,[1,2,8,11,13]),(14,[8,11,13]),(15,[8,9,10])],lp:=[] }
def fn38:AFn:=AFn.mk 4 [.cellA 8 3,.tmp 9,.tmp 10]
 (.seq (.region [
 ob 4 (.box (.tmp 0)),
 ob 8 (.box0 [(.slice .c0 []),(.int .i64 0),(.int .i64 0)]),
 ob 9 (.mv (.cst (.int .i64 0))),
 ob 10 (.mv (.cst (.int .i64 0)))] false [1,2,3,4,8]) q38_14)
theorem ok38:compFn Tryz.prog ann38 Tryz.f38=some fn38:=by kernel_rfl
def q39_0:ACode :=
 (.seq (.region [
 ob 1 (.build [(.int .i64 0),(.int .i64 0),(.int .i64 0),(.slice .c0 []),(.slice .c0 []),(.int .i64 0)] [(0,1,(.cst (.int .i64 1))),(1,1,(.cst (.int .i64 2))),(5,1,(.cst (.int .i64 1)))]),
 ob 2 (.lits 6 [(.tmp 1)]),
 ob 3 (.build [(.slice .c0 []),(.int .i64 0),(.int .i64 0)] [(0,1,(.tmp 2)),(1,1,(.cst (.int .i64 2))),(2,1,(.cst (.int .i64 1)))]),
 ox (.store 3 (.tmp 0) (.tmp 3))] false [0]) (.ret))
def ann39:Ann:={ n:=4,own:=[],lv:=[(0,[0]),(1,[0])],lp:=[] }
def fn39:AFn:=AFn.mk 0 [.cellA 0 3]
 (.seq (.region [
 ob 0 (.box0 [(.slice .c0 []),(.int .i64 0),(.int .i64 0)])] false [0]) q39_0)
theorem ok39:compFn Tryz.prog ann39 Tryz.f39=some fn39:=by kernel_rfl
def q74_0:ACode :=
 (.seq (.region [
 ob 22 (.mv (.tmp 9)),
 ob 6 (.mv (.cst (.int .i64 0))),
 ob 7 (.mv (.tmp 22))] false [6,7]) (.ret))
def q74_1:ACode :=
 (.seq (.region [
 ob 6 (.mv (.cst (.int .i64 0))),
 ob 7 (.mv (.cst (.int .i64 60)))] false [6,7]) (.ret))
def q74_2:ACode :=
 (.seq (.region [
 ob 6 (.mv (.cst (.int .i64 0))),
 ob 7 (.mv (.cst (.int .i64 70)))] false [6,7]) (.ret))
def q74_3:ACode :=
 (.seq (.region [
 ob 34 (.faddr 4 (.tmp 8)),
 ob 35 (.load1 (.tmp 34)),
 ob 36 (.mv (.tmp 10)),
 ob 37 (.iaddr 3 (.tmp 35) (.tmp 36)),
 ob 38 (.faddr 1 (.tmp 37)),
 ob 39 (.load1 (.tmp 38)),
 ob 6 (.mv (.tmp 39)),
 ob 7 (.mv (.cst (.int .i64 0)))] false [6,7]) (.ret))
def q74_4:ACode :=
 (.seq (.seq (.region [
 ob 32 (.mv (.tmp 11)),
 ob 33 (.not (.tmp 32))] false [8,10,33]) (.cond (.tmp 33) q74_2 (.skip))) q74_3)
def q74_5:ACode :=
 (.seq (.region [
 ob 27 (.loadA 6 (.tmp 8)),
 ob 28 (.mv (.tmp 2)),
 ob 29 (.call 104 [(.tmp 27),(.tmp 28)]),
 ob 26 (.mv (.tmp 29)),
 ob 30 (.extract (.tmp 26) 0),
 ob 31 (.extract (.tmp 26) 1),
 ob 10 (.mv (.tmp 30)),
 ob 11 (.mv (.tmp 31))] false [8,10,11]) q74_4)
def q74_6:ACode :=
 (.seq (.seq (.region [
 ob 23 (.mv (.tmp 2)),
 ob 24 (.call 102 [(.tmp 23)]),
 ob 25 (.not (.tmp 24))] false [2,8,25]) (.cond (.tmp 25) q74_1 (.skip))) q74_5)
def q74_7:ACode :=
 (.seq (.seq (.region [
 ob 20 (.mv (.tmp 9)),
 ob 21 (.bin .neq (.tmp 20) (.cst (.int .i64 0)))] false [2,8,9,21]) (.cond (.tmp 21) q74_0 (.skip))) q74_6)
def q74_8:ACode :=
 (.seq (.region [
 ob 13 (.loadA 3 (.tmp 3)),
 ob 14 (.build [(.slice .c0 []),(.int .i64 0),(.int .i64 0)] [(0,3,(.tmp 13))]),
 ob 15 (.box (.tmp 14)),
 ob 16 (.mv (.tmp 1)),
 ob 17 (.call 103 [(.tmp 15),(.tmp 16)]),
 ob 12 (.mv (.tmp 17)),
 ob 18 (.extract (.tmp 12) 0),
 ob 19 (.extract (.tmp 12) 1),
 ob 8 (.box0 [(.int .i64 0),(.int .i64 0),(.int .i64 0),(.slice .c0 []),(.slice .c0 []),(.int .i64 0)]),
 ox (.store 6 (.tmp 8) (.tmp 18)),
 ob 9 (.mv (.tmp 19))] false [2,8,9]) q74_7)
def E74:=And.intro (exK_head q74_0.eq_1) (And.intro (exK_head q74_1.eq_1) (And.intro (exK_head q74_2.eq_1) (And.intro (exK_head q74_3.eq_1) (And.intro (exK_head q74_4.eq_1) (And.intro (exK_head q74_5.eq_1) (And.intro (exK_head q74_6.eq_1) (And.intro (exK_head q74_7.eq_1) (exK_head q74_8.eq_1))))))))
def ann74:Ann:={ n:=40,own:=[],lv:=[(0,[1,2,3]),(1,[2,8,9]),(2,[2,8,9,21]),(3,[6,7]),(4,[2,8,25]),(5,[6,7]),(6,[8,10,11]),(7,[8,10,33]),(8,[6,7]),(9,[6,7])],lp:=[] }
def fn74:AFn:=AFn.mk 3 [.tmp 6,.tmp 7]
 (.seq (.region [
 ob 3 (.box (.tmp 0)),
 ob 6 (.mv (.cst (.int .i64 0))),
 ob 7 (.mv (.cst (.int .i64 0)))] false [1,2,3]) q74_8)
theorem ok74:compFn Tryz.prog ann74 Tryz.f74=some fn74:=by kernel_rfl
def q75_0:ACode :=
 (.seq (.region [
 ob 16 (.build [(.int .i64 0),(.int .i64 0),(.int .i64 0),(.slice .c0 []),(.slice .c0 []),(.int .i64 0)] []),
 ox (.store 6 (.tmp 4) (.tmp 16)),
 ob 5 (.mv (.cst (.bool false)))] false [4,5]) (.ret))
def q75_1:ACode :=
 (.seq (.region [
 ob 17 (.mv (.tmp 0)),
 ob 18 (.chk (.tmp 17)),
 ob 19 (.faddr 0 (.tmp 18)),
 ob 20 (.faddr 0 (.tmp 19)),
 ob 21 (.load1 (.tmp 20)),
 ob 22 (.mv (.tmp 6)),
 ob 23 (.iaddr 6 (.tmp 21) (.tmp 22)),
 ob 24 (.loadA 6 (.tmp 23)),
 ox (.store 6 (.tmp 4) (.tmp 24)),
 ob 5 (.mv (.cst (.bool true)))] false [4,5]) (.ret))
def q75_2:ACode :=
 (.seq (.seq (.region [
 ob 14 (.mv (.tmp 7)),
 ob 15 (.not (.tmp 14))] false [0,4,6,15]) (.cond (.tmp 15) q75_0 (.skip))) q75_1)
def q75_3:ACode :=
 (.seq (.region [
 ob 9 (.mv (.tmp 0)),
 ob 10 (.mv (.tmp 1)),
 ob 11 (.call 105 [(.tmp 9),(.tmp 10)]),
 ob 8 (.mv (.tmp 11)),
 ob 12 (.extract (.tmp 8) 0),
 ob 13 (.extract (.tmp 8) 1),
 ob 6 (.mv (.tmp 12)),
 ob 7 (.mv (.tmp 13))] false [0,4,6,7]) q75_2)
def E75:=And.intro (exK_head q75_0.eq_1) (And.intro (exK_head q75_1.eq_1) (And.intro (exK_head q75_2.eq_1) (exK_head q75_3.eq_1)))
def ann75:Ann:={ n:=25,own:=[],lv:=[(0,[0,1,4]),(1,[0,4,6,7]),(2,[0,4,6,15]),(3,[4,5]),(4,[4,5])],lp:=[] }
def fn75:AFn:=AFn.mk 2 [.cellA 4 6,.tmp 5]
 (.seq (.region [
 ob 4 (.box0 [(.int .i64 0),(.int .i64 0),(.int .i64 0),(.slice .c0 []),(.slice .c0 []),(.int .i64 0)]),
 ob 5 (.mv (.cst (.bool false)))] false [0,1,4]) q75_3)
theorem ok75:compFn Tryz.prog ann75 Tryz.f75=some fn75:=by kernel_rfl
def q76_0:ACode :=
 (.seq (.region [
 ob 19 (.mv (.tmp 8)),
 ob 6 (.mv (.tmp 19))] false [6]) (.ret))
def q76_1:ACode :=
 (.seq (.region [
 ob 6 (.mv (.cst (.int .i64 60)))] false [6]) (.ret))
def q76_2:ACode :=
 (.seq (.region [
 ob 6 (.mv (.cst (.int .i64 71)))] false [6]) (.ret))
def q76_3:ACode :=
 (.seq (.region [
 ob 29 (.mv (.tmp 10))] false [0,1,7,29]) (.cond (.tmp 29) q76_2 (.skip)))
def q76_4:ACode :=
 (.seq (.region [
 ob 6 (.mv (.cst (.int .i64 76)))] false [6]) (.ret))
def q76_5:ACode :=
 (.seq (.region [
 ob 6 (.mv (.cst (.int .i64 0)))] false [6]) (.ret))
def q76_6:ACode :=
 (.seq (.seq (.region [
 ob 30 (.faddr 4 (.tmp 7)),
 ob 31 (.load1 (.tmp 30)),
 ob 32 (.lenV (.tmp 31)),
 ob 33 (.bin .geq (.tmp 32) (.cst (.int .i64 64))),
 ob 34 (.mv (.tmp 33)),
 og 35 34 false (.mv (.tmp 0)),
 og 36 34 false (.mv (.tmp 1)),
 og 37 34 false (.call 106 [(.tmp 35),(.tmp 36)]),
 og 38 34 false (.bin .geq (.tmp 37) (.cst (.int .i64 12))),
 ob 39 (.pick (.tmp 34) (.cst (.bool true)) (.tmp 38)),
 ob 40 (.mv (.tmp 39)),
 og 41 40 false (.mv (.tmp 0)),
 og 42 40 false (.chk (.tmp 41)),
 og 43 40 false (.faddr 0 (.tmp 42)),
 og 44 40 false (.faddr 2 (.tmp 43)),
 og 45 40 false (.load1 (.tmp 44)),
 og 46 40 false (.bin .geq (.tmp 45) (.cst (.int .i64 1099511627776))),
 ob 47 (.pick (.tmp 40) (.cst (.bool true)) (.tmp 46))] false [47]) (.cond (.tmp 47) q76_4 (.skip))) q76_5)
def q76_7:ACode :=
 (.seq (.seq (.region [
 ob 24 (.loadA 6 (.tmp 7)),
 ob 25 (.mv (.tmp 2)),
 ob 26 (.call 104 [(.tmp 24),(.tmp 25)]),
 ob 23 (.mv (.tmp 26)),
 ob 27 (.extract (.tmp 23) 0),
 ob 28 (.extract (.tmp 23) 1),
 ob 9 (.mv (.tmp 27)),
 ob 10 (.mv (.tmp 28))] false [0,1,7,10]) q76_3) q76_6)
def q76_8:ACode :=
 (.seq (.seq (.region [
 ob 20 (.mv (.tmp 2)),
 ob 21 (.call 102 [(.tmp 20)]),
 ob 22 (.not (.tmp 21))] false [0,1,2,7,22]) (.cond (.tmp 22) q76_1 (.skip))) q76_7)
def q76_9:ACode :=
 (.seq (.seq (.region [
 ob 17 (.mv (.tmp 8)),
 ob 18 (.bin .neq (.tmp 17) (.cst (.int .i64 0)))] false [0,1,2,7,8,18]) (.cond (.tmp 18) q76_0 (.skip))) q76_8)
def q76_10:ACode :=
 (.seq (.region [
 ob 12 (.mv (.tmp 0)),
 ob 13 (.mv (.tmp 1)),
 ob 14 (.call 103 [(.tmp 12),(.tmp 13)]),
 ob 11 (.mv (.tmp 14)),
 ob 15 (.extract (.tmp 11) 0),
 ob 16 (.extract (.tmp 11) 1),
 ob 7 (.box0 [(.int .i64 0),(.int .i64 0),(.int .i64 0),(.slice .c0 []),(.slice .c0 []),(.int .i64 0)]),
 ox (.store 6 (.tmp 7) (.tmp 15)),
 ob 8 (.mv (.tmp 16))] false [0,1,2,7,8]) q76_9)
def ann76:Ann:={ n:=48,own:=[],lv:=[(0,[0,1,2]),(1,[0,1,2,7,8]),(2,[0,1,2,7,8,18]),(3,[6]),(4,[0,1,2,7,22]),(5,[6]),(6,[0,1,7,10]),(7,[0,1,7,29]),(8,[6]),(9,[47]),(10,[6]),(11,[6])],lp:=[] }
def fn76:AFn:=AFn.mk 3 [.tmp 6]
 (.seq (.region [
 ob 6 (.mv (.cst (.int .i64 0)))] false [0,1,2]) q76_10)
theorem ok76:compFn Tryz.prog ann76 Tryz.f76=some fn76:=by kernel_rfl
def q77_0:ACode :=
 (.seq (.region [
 ob 24 (.mv (.tmp 0)),
 ob 25 (.chk (.tmp 24)),
 ob 26 (.faddr 0 (.tmp 25)),
 ob 27 (.faddr 0 (.tmp 26)),
 ob 28 (.load1 (.tmp 27)),
 ob 29 (.mv (.tmp 4)),
 ob 30 (.loadA 6 (.tmp 3)),
 ob 31 (.iaddr 6 (.tmp 28) (.tmp 29)),
 ox (.store 6 (.tmp 31) (.tmp 30))] true []) (.ret))
def q77_1:ACode :=
 (.region [
 ob 32 (.mv (.tmp 0)),
 ob 33 (.mv (.tmp 0)),
 ob 34 (.chk (.tmp 33)),
 ob 35 (.faddr 0 (.tmp 34)),
 ob 36 (.faddr 0 (.tmp 35)),
 ob 37 (.load1 (.tmp 36)),
 ob 38 (.mv (.tmp 4)),
 ob 39 (.loadA 6 (.tmp 3)),
 ob 40 (.lits 6 [(.tmp 39)]),
 ob 41 (.callD 108 [(.tmp 37),(.tmp 38),(.tmp 40)]),
 ob 42 (.chk (.tmp 32)),
 ob 43 (.faddr 0 (.tmp 42)),
 ob 44 (.faddr 0 (.tmp 43)),
 ox (.store 1 (.tmp 44) (.tmp 41))] true [])
def q77_2:ACode :=
 (.seq (.seq (.region [
 ob 23 (.mv (.tmp 5))] false [0,3,4,23]) (.cond (.tmp 23) q77_0 (.skip))) q77_1)
def q77_3:ACode :=
 (.seq (.region [
 ob 13 (.mv (.tmp 0)),
 ob 14 (.mv (.tmp 0)),
 ob 15 (.chk (.tmp 14)),
 ob 16 (.faddr 0 (.tmp 15)),
 ob 17 (.faddr 0 (.tmp 16)),
 ob 18 (.load1 (.tmp 17)),
 ob 19 (.callD 107 [(.tmp 18)]),
 ob 20 (.chk (.tmp 13)),
 ob 21 (.faddr 0 (.tmp 20)),
 ob 22 (.faddr 0 (.tmp 21)),
 ox (.store 1 (.tmp 22) (.tmp 19))] false [0,3,4,5]) q77_2)
def q77_4:ACode :=
 (.seq (.region [
 ob 7 (.mv (.tmp 0)),
 ob 8 (.faddr 0 (.tmp 3)),
 ob 9 (.load1 (.tmp 8)),
 ob 10 (.call 105 [(.tmp 7),(.tmp 9)]),
 ob 6 (.mv (.tmp 10)),
 ob 11 (.extract (.tmp 6) 0),
 ob 12 (.extract (.tmp 6) 1),
 ob 4 (.mv (.tmp 11)),
 ob 5 (.mv (.tmp 12))] false [0,3,4,5]) q77_3)
def ann77:Ann:={ n:=45,own:=[1000107,1000108],lv:=[(0,[0,3]),(1,[0,3,4,5]),(2,[0,3,4,5]),(3,[0,3,4,23]),(4,[]),(5,[])],lp:=[] }
def fn77:AFn:=AFn.mk 2 []
 (.seq (.region [
 ob 3 (.box (.tmp 1))] false [0,3]) q77_4)
theorem ok77:compFn Tryz.prog ann77 Tryz.f77=some fn77:=by kernel_rfl
def q78_0:ACode :=
 (.region [
 ob 48 (.mv (.tmp 0)),
 ob 49 (.loadA 6 (.tmp 8)),
 ob 50 (.callF 77 [(.tmp 48),(.tmp 49)])] false [])
def q78_1:ACode :=
 (.seq (.region [
 ob 39 (.mv (.tmp 0)),
 ob 40 (.chk (.tmp 39)),
 ob 41 (.faddr 0 (.tmp 40)),
 ob 42 (.faddr 2 (.tmp 41)),
 ob 43 (.load1 (.tmp 42)),
 ob 44 (.bin .add (.tmp 43) (.cst (.int .i64 1))),
 ob 45 (.chk (.tmp 39)),
 ob 46 (.faddr 0 (.tmp 45)),
 ob 47 (.faddr 2 (.tmp 46)),
 ox (.store 1 (.tmp 47) (.tmp 44))] false [0,8]) q78_0)
def q78_2:ACode :=
 (.seq (.region [
 ob 24 (.faddr 4 (.tmp 8)),
 ob 25 (.load1 (.tmp 24)),
 ⟨(some 26),.callD 110 [(.tmp 25)],none,true,false,[]⟩,
 ob 27 (.mv (.tmp 10)),
 ob 28 (.mv (.tmp 2)),
 ob 29 (.mv (.tmp 3)),
 ob 30 (.mv (.tmp 0)),
 ob 31 (.chk (.tmp 30)),
 ob 32 (.faddr 0 (.tmp 31)),
 ob 33 (.faddr 2 (.tmp 32)),
 ob 34 (.load1 (.tmp 33)),
 ob 35 (.build [(.str []),(.int .i64 0),(.int .i64 0)] [(0,1,(.tmp 28)),(1,1,(.tmp 29)),(2,1,(.tmp 34))]),
 ob 36 (.lits 3 [(.tmp 35)]),
 ob 37 (.callD 109 [(.tmp 26),(.tmp 27),(.tmp 36)]),
 ob 38 (.faddr 4 (.tmp 8)),
 ox (.store 1 (.tmp 38) (.tmp 37))] true [0,8]) q78_1)
def q78_3:ACode :=
 (.seq (.region [
 ob 19 (.loadA 6 (.tmp 8)),
 ob 20 (.mv (.tmp 2)),
 ob 21 (.call 104 [(.tmp 19),(.tmp 20)]),
 ob 18 (.mv (.tmp 21)),
 ob 22 (.extract (.tmp 18) 0),
 ob 23 (.extract (.tmp 18) 1),
 ob 10 (.mv (.tmp 22)),
 ob 11 (.mv (.tmp 23))] false [0,2,3,8,10]) q78_2)
def ann78:Ann:={ n:=51,own:=[1000110,1000109,2000077],lv:=[(0,[0,2,3,8]),(1,[0,2,3,8,10]),(2,[0,8]),(3,[0,8]),(4,[])],lp:=[] }
def fn78:AFn:=AFn.mk 4 []
 (.seq (.region [
 ob 13 (.mv (.tmp 0)),
 ob 14 (.mv (.tmp 1)),
 ob 15 (.call 75 [(.tmp 13),(.tmp 14)]),
 ob 12 (.mv (.tmp 15)),
 ob 16 (.extract (.tmp 12) 0),
 ob 17 (.extract (.tmp 12) 1),
 ob 8 (.box0 [(.int .i64 0),(.int .i64 0),(.int .i64 0),(.slice .c0 []),(.slice .c0 []),(.int .i64 0)]),
 ox (.store 6 (.tmp 8) (.tmp 16)),
 ob 9 (.mv (.tmp 17))] false [0,2,3,8]) q78_3)
theorem ok78:compFn Tryz.prog ann78 Tryz.f78=some fn78:=by kernel_rfl
def q102_0:ACode :=
 (.seq (.region [
 ob 2 (.mv (.cst (.bool false)))] false [2]) (.ret))
def q102_1:ACode :=
 (.seq (.region [
 ob 2 (.mv (.cst (.bool false)))] false [2]) (.ret))
def q102_2:ACode :=
 (.seq (.region [
 ob 25 (.mv (.tmp 4)),
 ob 26 (.bin .lss (.tmp 25) (.cst (.int .i32 32))),
 ob 27 (.mv (.tmp 26)),
 og 28 27 false (.mv (.tmp 4)),
 og 29 27 false (.bin .eql (.tmp 28) (.cst (.int .i32 47))),
 ob 30 (.pick (.tmp 27) (.cst (.bool true)) (.tmp 29))] false [21,30]) (.cond (.tmp 30) q102_1 (.skip)))
def q102_3:ACode :=
 (.block 1 (.seq (.region [
 ob 24 (.extract (.tmp 22) 2),
 ob 4 (.mv (.tmp 24))] false [4,21]) q102_2))
def q102_4:ACode :=
 (.seq (.cond (.tmp 23) (.skip) (.exit 0)) q102_3)
def lb102_0:ACode :=
 (.seq (.region [
 ob 22 (.nextS (.tmp 21)),
 ob 23 (.extract (.tmp 22) 0)] false [21,22,23]) q102_4)
def q102_5:ACode :=
 (.seq (.region [
 ob 2 (.mv (.cst (.bool true)))] false [2]) (.ret))
def q102_6:ACode :=
 (.seq (.seq (.region [
 ob 20 (.mv (.tmp 0)),
 ob 21 (.rngS (.tmp 20))] false [21]) (.block 0 (.loop [21] lb102_0))) q102_5)
def q102_7:ACode :=
 (.seq (.seq (.region [
 ob 5 (.mv (.tmp 0)),
 ob 6 (.bin .eql (.tmp 5) (.cst (.str []))),
 ob 7 (.mv (.tmp 6)),
 og 8 7 false (.mv (.tmp 0)),
 og 9 7 false (.lenS (.tmp 8)),
 og 10 7 false (.bin .gtr (.tmp 9) (.cst (.int .i64 32))),
 ob 11 (.pick (.tmp 7) (.cst (.bool true)) (.tmp 10)),
 ob 12 (.mv (.tmp 11)),
 og 13 12 false (.mv (.tmp 0)),
 og 14 12 false (.bin .eql (.tmp 13) (.cst (.str [46]))),
 ob 15 (.pick (.tmp 12) (.cst (.bool true)) (.tmp 14)),
 ob 16 (.mv (.tmp 15)),
 og 17 16 false (.mv (.tmp 0)),
 og 18 16 false (.bin .eql (.tmp 17) (.cst (.str [46,46]))),
 ob 19 (.pick (.tmp 16) (.cst (.bool true)) (.tmp 18))] false [0,19]) (.cond (.tmp 19) q102_0 (.skip))) q102_6)
def E102:=And.intro (exK_head q102_0.eq_1) (And.intro (exK_head q102_1.eq_1) (And.intro (exK_head q102_2.eq_1) (And.intro (exK_head q102_3.eq_1) (And.intro (exK_head q102_4.eq_1) (And.intro (exK_head lb102_0.eq_1) (And.intro (exK_head q102_5.eq_1) (And.intro (exK_head q102_6.eq_1) (exK_head q102_7.eq_1))))))))
def ann102:Ann:={ n:=31,own:=[],lv:=[(0,[0]),(1,[0,19]),(2,[2]),(3,[21]),(4,[21,22,23]),(5,[4,21]),(6,[21,30]),(7,[2]),(8,[2])],lp:=[(4,[21])] }
def fn102:AFn:=AFn.mk 1 [.tmp 2]
 (.seq (.region [
 ob 2 (.mv (.cst (.bool false)))] false [0]) q102_7)
theorem ok102:compFn Tryz.prog ann102 Tryz.f102=some fn102:=by kernel_rfl
def q103_0:ACode :=
 (.seq (.region [
 ob 18 (.build [(.int .i64 0),(.int .i64 0),(.int .i64 0),(.slice .c0 []),(.slice .c0 []),(.int .i64 0)] []),
 ox (.store 6 (.tmp 4) (.tmp 18)),
 ob 5 (.mv (.cst (.int .i64 70)))] false [4,5]) (.ret))
def q103_1:ACode :=
 (.seq (.region [
 ob 23 (.build [(.int .i64 0),(.int .i64 0),(.int .i64 0),(.slice .c0 []),(.slice .c0 []),(.int .i64 0)] []),
 ox (.store 6 (.tmp 4) (.tmp 23)),
 ob 5 (.mv (.cst (.int .i64 73)))] false [4,5]) (.ret))
def q103_2:ACode :=
 (.seq (.region [
 ob 14 (.loadA 6 (.tmp 6)),
 ox (.store 6 (.tmp 4) (.tmp 14)),
 ob 5 (.mv (.cst (.int .i64 0)))] false [4,5]) (.ret))
def q103_3:ACode :=
 (.seq (.region [
 ob 20 (.faddr 1 (.tmp 6)),
 ob 21 (.load1 (.tmp 20)),
 ob 22 (.bin .neq (.tmp 21) (.cst (.int .i64 2))),
 ob 19 (.mv (.tmp 22))] false [4,6,19]) (.cond (.tmp 19) q103_1 q103_2))
def q103_4:ACode :=
 (.block 0 (.seq (.region [
 ob 16 (.mv (.tmp 7)),
 ob 17 (.not (.tmp 16)),
 ob 15 (.mv (.tmp 17))] false [4,6,15]) (.cond (.tmp 15) q103_0 q103_3)))
def q103_5:ACode :=
 (.seq (.region [
 ob 9 (.mv (.tmp 0)),
 ob 10 (.mv (.tmp 1)),
 ob 11 (.call 75 [(.tmp 9),(.tmp 10)]),
 ob 8 (.mv (.tmp 11)),
 ob 12 (.extract (.tmp 8) 0),
 ob 13 (.extract (.tmp 8) 1),
 ob 6 (.box0 [(.int .i64 0),(.int .i64 0),(.int .i64 0),(.slice .c0 []),(.slice .c0 []),(.int .i64 0)]),
 ox (.store 6 (.tmp 6) (.tmp 12)),
 ob 7 (.mv (.tmp 13))] false [4,6,7]) q103_4)
def E103:=And.intro (exK_head q103_0.eq_1) (And.intro (exK_head q103_1.eq_1) (And.intro (exK_head q103_2.eq_1) (And.intro (exK_head q103_3.eq_1) (And.intro (exK_head q103_4.eq_1) (exK_head q103_5.eq_1)))))
def ann103:Ann:={ n:=24,own:=[],lv:=[(0,[0,1,4]),(1,[4,6,7]),(2,[4,5]),(3,[4,6,15]),(4,[4,5]),(5,[4,6,19]),(6,[4,5])],lp:=[] }
def fn103:AFn:=AFn.mk 2 [.cellA 4 6,.tmp 5]
 (.seq (.region [
 ob 4 (.box0 [(.int .i64 0),(.int .i64 0),(.int .i64 0),(.slice .c0 []),(.slice .c0 []),(.int .i64 0)]),
 ob 5 (.mv (.cst (.int .i64 0)))] false [0,1,4]) q103_5)
theorem ok103:compFn Tryz.prog ann103 Tryz.f103=some fn103:=by kernel_rfl
def q104_0:ACode :=
 (.seq (.region [
 ob 6 (.faddr 4 (.tmp 2)),
 ob 7 (.load1 (.tmp 6)),
 ob 8 (.mv (.tmp 1)),
 ob 9 (.call 144 [(.tmp 7),(.tmp 8),(.cst (.func 145 []))]),
 ob 10 (.extract (.tmp 9) 0),
 ob 11 (.extract (.tmp 9) 1),
 ob 4 (.mv (.tmp 10)),
 ob 5 (.mv (.tmp 11))] false [4,5]) (.ret))
def E104:=exK_head q104_0.eq_1
def ann104:Ann:={ n:=12,own:=[],lv:=[(0,[1,2]),(1,[4,5])],lp:=[] }
def fn104:AFn:=AFn.mk 2 [.tmp 4,.tmp 5]
 (.seq (.region [
 ob 2 (.box (.tmp 0)),
 ob 4 (.mv (.cst (.int .i64 0))),
 ob 5 (.mv (.cst (.bool false)))] false [1,2]) q104_0)
theorem ok104:compFn Tryz.prog ann104 Tryz.f104=some fn104:=by kernel_rfl
def q105_0:ACode :=
 (.seq (.region [
 ob 6 (.mv (.tmp 0)),
 ob 7 (.chk (.tmp 6)),
 ob 8 (.faddr 0 (.tmp 7)),
 ob 9 (.faddr 0 (.tmp 8)),
 ob 10 (.load1 (.tmp 9)),
 ob 11 (.mv (.tmp 1)),
 ob 12 (.call 147 [(.tmp 10),(.tmp 11),(.cst (.func 148 []))]),
 ob 13 (.extract (.tmp 12) 0),
 ob 14 (.extract (.tmp 12) 1),
 ob 4 (.mv (.tmp 13)),
 ob 5 (.mv (.tmp 14))] false [4,5]) (.ret))
def E105:=exK_head q105_0.eq_1
def ann105:Ann:={ n:=15,own:=[],lv:=[(0,[0,1]),(1,[4,5])],lp:=[] }
def fn105:AFn:=AFn.mk 2 [.tmp 4,.tmp 5]
 (.seq (.region [
 ob 4 (.mv (.cst (.int .i64 0))),
 ob 5 (.mv (.cst (.bool false)))] false [0,1]) q105_0)
theorem ok105:compFn Tryz.prog ann105 Tryz.f105=some fn105:=by kernel_rfl
def q106_0:ACode :=
 (.seq (.region [
 ob 5 (.mv (.tmp 0)),
 ob 6 (.mv (.tmp 1)),
 ob 7 (.call 150 [(.tmp 5),(.tmp 6)]),
 ob 8 (.lenV (.tmp 7)),
 ob 9 (.bin .sub (.tmp 8) (.cst (.int .i64 1))),
 ob 4 (.mv (.tmp 9))] false [4]) (.ret))
def ann106:Ann:={ n:=10,own:=[],lv:=[(0,[0,1]),(1,[4])],lp:=[] }
def fn106:AFn:=AFn.mk 2 [.tmp 4]
 (.seq (.region [
 ob 4 (.mv (.cst (.int .i64 0)))] false [0,1]) q106_0)
theorem ok106:compFn Tryz.prog ann106 Tryz.f106=some fn106:=by kernel_rfl
def q143_0:ACode :=
 (.seq (.region [
 ob 6 (.mv (.tmp 0)),
 ob 7 (.mv (.tmp 1)),
 ob 8 (.call 170 [(.tmp 6),(.tmp 7)]),
 ob 9 (.extract (.tmp 8) 0),
 ob 10 (.extract (.tmp 8) 1),
 ob 4 (.mv (.tmp 9)),
 ob 5 (.mv (.tmp 10))] false [4,5]) (.ret))
def E143:=exK_head q143_0.eq_1
def ann143:Ann:={ n:=11,own:=[],lv:=[(0,[0,1]),(1,[4,5])],lp:=[] }
def fn143:AFn:=AFn.mk 2 [.tmp 4,.tmp 5]
 (.seq (.region [
 ob 4 (.mv (.cst (.str []))),
 ob 5 (.mv (.cst (.bool false)))] false [0,1]) q143_0)
theorem ok143:compFn Tryz.prog ann143 Tryz.f143=some fn143:=by kernel_rfl
def q144_0:ACode :=
 (.region [
 ob 32 (.mv (.tmp 11)),
 ob 33 (.bin .add (.tmp 32) (.cst (.int .i64 1))),
 ob 9 (.mv (.tmp 33))] false [0,1,2,8,9,10])
def q144_1:ACode :=
 (.region [
 ob 34 (.mv (.tmp 11)),
 ob 10 (.mv (.tmp 34))] false [0,1,2,8,9,10])
def q144_2:ACode :=
 (.seq (.region [
 ob 24 (.mv (.tmp 2)),
 ob 25 (.mv (.tmp 0)),
 ob 26 (.mv (.tmp 11)),
 ob 27 (.iaddr 3 (.tmp 25) (.tmp 26)),
 ob 28 (.loadA 3 (.tmp 27)),
 ob 29 (.mv (.tmp 1)),
 ob 30 (.callV (.tmp 24) [(.tmp 28),(.tmp 29)]),
 ob 31 (.bin .lss (.tmp 30) (.cst (.int .i64 0)))] false [0,1,2,8,9,10,11,31]) (.cond (.tmp 31) q144_0 q144_1))
def q144_3:ACode :=
 (.block 1 (.seq (.region [
 ob 18 (.mv (.tmp 9)),
 ob 19 (.mv (.tmp 10)),
 ob 20 (.bin .add (.tmp 18) (.tmp 19)),
 ob 21 (.conv .u64 (.tmp 20)),
 ob 22 (.bin .shr (.tmp 21) (.cst (.int .u64 1))),
 ob 23 (.conv .i64 (.tmp 22)),
 ob 11 (.mv (.tmp 23))] false [0,1,2,8,9,10,11]) q144_2))
def lb144_0:ACode :=
 (.seq (.seq (.region [
 ob 15 (.mv (.tmp 9)),
 ob 16 (.mv (.tmp 10)),
 ob 17 (.bin .lss (.tmp 15) (.tmp 16))] false [0,1,2,8,9,10,17]) (.cond (.tmp 17) (.skip) (.exit 0))) q144_3)
def q144_4:ACode :=
 (.seq (.region [
 ob 35 (.mv (.tmp 9)),
 ob 36 (.mv (.tmp 9)),
 ob 37 (.mv (.tmp 8)),
 ob 38 (.bin .lss (.tmp 36) (.tmp 37)),
 ob 39 (.mv (.tmp 38)),
 og 40 39 true (.mv (.tmp 2)),
 og 41 39 true (.mv (.tmp 0)),
 og 42 39 true (.mv (.tmp 9)),
 og 43 39 true (.iaddr 3 (.tmp 41) (.tmp 42)),
 og 44 39 true (.loadA 3 (.tmp 43)),
 og 45 39 true (.mv (.tmp 1)),
 og 46 39 true (.callV (.tmp 40) [(.tmp 44),(.tmp 45)]),
 og 47 39 true (.bin .eql (.tmp 46) (.cst (.int .i64 0))),
 ob 48 (.pick (.tmp 39) (.tmp 47) (.cst (.bool false))),
 ob 6 (.mv (.tmp 35)),
 ob 7 (.mv (.tmp 48))] false [6,7]) (.ret))
def q144_5:ACode :=
 (.seq (.block 0 (.loop [0,1,2,8,9,10] lb144_0)) q144_4)
def q144_6:ACode :=
 (.seq (.region [
 ob 14 (.mv (.tmp 8)),
 ob 9 (.mv (.cst (.int .i64 0))),
 ob 10 (.mv (.tmp 14))] false [0,1,2,8,9,10]) q144_5)
def q144_7:ACode :=
 (.seq (.region [
 ob 12 (.mv (.tmp 0)),
 ob 13 (.lenV (.tmp 12)),
 ob 8 (.mv (.tmp 13))] false [0,1,2,8]) q144_6)
def E144:=And.intro (exK_head q144_0.eq_1) (And.intro (exK_head q144_1.eq_1) (And.intro (exK_head q144_2.eq_1) (And.intro (exK_head q144_3.eq_1) (And.intro (exK_head lb144_0.eq_1) (And.intro (exK_head q144_4.eq_1) (And.intro (exK_head q144_5.eq_1) (And.intro (exK_head q144_6.eq_1) (exK_head q144_7.eq_1))))))))
def ann144:Ann:={ n:=49,own:=[],lv:=[(0,[0,1,2]),(1,[0,1,2,8]),(2,[0,1,2,8,9,10]),(3,[0,1,2,8,9,10,17]),(4,[0,1,2,8,9,10,11]),(5,[0,1,2,8,9,10,11,31]),(6,[0,1,2,8,9,10]),(7,[0,1,2,8,9,10]),(8,[6,7])],lp:=[(3,[0,1,2,8,9,10])] }
def fn144:AFn:=AFn.mk 3 [.tmp 6,.tmp 7]
 (.seq (.region [
 ob 6 (.mv (.cst (.int .i64 0))),
 ob 7 (.mv (.cst (.bool false)))] false [0,1,2]) q144_7)
theorem ok144:compFn Tryz.prog ann144 Tryz.f144=some fn144:=by kernel_rfl
def q145_0:ACode :=
 (.seq (.region [
 ob 5 (.faddr 0 (.tmp 2)),
 ob 6 (.load1 (.tmp 5)),
 ob 7 (.mv (.tmp 1)),
 ob 8 (.call 146 [(.tmp 6),(.tmp 7)]),
 ob 4 (.mv (.tmp 8))] false [4]) (.ret))
def E145:=exK_head q145_0.eq_1
def ann145:Ann:={ n:=9,own:=[],lv:=[(0,[1,2]),(1,[4])],lp:=[] }
def fn145:AFn:=AFn.mk 2 [.tmp 4]
 (.seq (.region [
 ob 2 (.box (.tmp 0)),
 ob 4 (.mv (.cst (.int .i64 0)))] false [1,2]) q145_0)
theorem ok145:compFn Tryz.prog ann145 Tryz.f145=some fn145:=by kernel_rfl
def q146_0:ACode :=
 (.seq (.region [
 ob 5 (.mv (.tmp 0)),
 ob 6 (.mv (.tmp 1)),
 ob 7 (.call 171 [(.tmp 5),(.tmp 6)]),
 ob 4 (.mv (.tmp 7))] false [4]) (.ret))
def E146:=exK_head q146_0.eq_1
def ann146:Ann:={ n:=8,own:=[],lv:=[(0,[0,1]),(1,[4])],lp:=[] }
def fn146:AFn:=AFn.mk 2 [.tmp 4]
 (.seq (.region [
 ob 4 (.mv (.cst (.int .i64 0)))] false [0,1]) q146_0)
theorem ok146:compFn Tryz.prog ann146 Tryz.f146=some fn146:=by kernel_rfl
def q147_0:ACode :=
 (.region [
 ob 32 (.mv (.tmp 11)),
 ob 33 (.bin .add (.tmp 32) (.cst (.int .i64 1))),
 ob 9 (.mv (.tmp 33))] false [0,1,2,8,9,10])
def q147_1:ACode :=
 (.region [
 ob 34 (.mv (.tmp 11)),
 ob 10 (.mv (.tmp 34))] false [0,1,2,8,9,10])
def q147_2:ACode :=
 (.seq (.region [
 ob 24 (.mv (.tmp 2)),
 ob 25 (.mv (.tmp 0)),
 ob 26 (.mv (.tmp 11)),
 ob 27 (.iaddr 6 (.tmp 25) (.tmp 26)),
 ob 28 (.loadA 6 (.tmp 27)),
 ob 29 (.mv (.tmp 1)),
 ob 30 (.callV (.tmp 24) [(.tmp 28),(.tmp 29)]),
 ob 31 (.bin .lss (.tmp 30) (.cst (.int .i64 0)))] false [0,1,2,8,9,10,11,31]) (.cond (.tmp 31) q147_0 q147_1))
def q147_3:ACode :=
 (.block 1 (.seq (.region [
 ob 18 (.mv (.tmp 9)),
 ob 19 (.mv (.tmp 10)),
 ob 20 (.bin .add (.tmp 18) (.tmp 19)),
 ob 21 (.conv .u64 (.tmp 20)),
 ob 22 (.bin .shr (.tmp 21) (.cst (.int .u64 1))),
 ob 23 (.conv .i64 (.tmp 22)),
 ob 11 (.mv (.tmp 23))] false [0,1,2,8,9,10,11]) q147_2))
def lb147_0:ACode :=
 (.seq (.seq (.region [
 ob 15 (.mv (.tmp 9)),
 ob 16 (.mv (.tmp 10)),
 ob 17 (.bin .lss (.tmp 15) (.tmp 16))] false [0,1,2,8,9,10,17]) (.cond (.tmp 17) (.skip) (.exit 0))) q147_3)
def q147_4:ACode :=
 (.seq (.region [
 ob 35 (.mv (.tmp 9)),
 ob 36 (.mv (.tmp 9)),
 ob 37 (.mv (.tmp 8)),
 ob 38 (.bin .lss (.tmp 36) (.tmp 37)),
 ob 39 (.mv (.tmp 38)),
 og 40 39 true (.mv (.tmp 2)),
 og 41 39 true (.mv (.tmp 0)),
 og 42 39 true (.mv (.tmp 9)),
 og 43 39 true (.iaddr 6 (.tmp 41) (.tmp 42)),
 og 44 39 true (.loadA 6 (.tmp 43)),
 og 45 39 true (.mv (.tmp 1)),
 og 46 39 true (.callV (.tmp 40) [(.tmp 44),(.tmp 45)]),
 og 47 39 true (.bin .eql (.tmp 46) (.cst (.int .i64 0))),
 ob 48 (.pick (.tmp 39) (.tmp 47) (.cst (.bool false))),
 ob 6 (.mv (.tmp 35)),
 ob 7 (.mv (.tmp 48))] false [6,7]) (.ret))
def q147_5:ACode :=
 (.seq (.block 0 (.loop [0,1,2,8,9,10] lb147_0)) q147_4)
def q147_6:ACode :=
 (.seq (.region [
 ob 14 (.mv (.tmp 8)),
 ob 9 (.mv (.cst (.int .i64 0))),
 ob 10 (.mv (.tmp 14))] false [0,1,2,8,9,10]) q147_5)
def q147_7:ACode :=
 (.seq (.region [
 ob 12 (.mv (.tmp 0)),
 ob 13 (.lenV (.tmp 12)),
 ob 8 (.mv (.tmp 13))] false [0,1,2,8]) q147_6)
def E147:=And.intro (exK_head q147_0.eq_1) (And.intro (exK_head q147_1.eq_1) (And.intro (exK_head q147_2.eq_1) (And.intro (exK_head q147_3.eq_1) (And.intro (exK_head lb147_0.eq_1) (And.intro (exK_head q147_4.eq_1) (And.intro (exK_head q147_5.eq_1) (And.intro (exK_head q147_6.eq_1) (exK_head q147_7.eq_1))))))))
def ann147:Ann:={ n:=49,own:=[],lv:=[(0,[0,1,2]),(1,[0,1,2,8]),(2,[0,1,2,8,9,10]),(3,[0,1,2,8,9,10,17]),(4,[0,1,2,8,9,10,11]),(5,[0,1,2,8,9,10,11,31]),(6,[0,1,2,8,9,10]),(7,[0,1,2,8,9,10]),(8,[6,7])],lp:=[(3,[0,1,2,8,9,10])] }
def fn147:AFn:=AFn.mk 3 [.tmp 6,.tmp 7]
 (.seq (.region [
 ob 6 (.mv (.cst (.int .i64 0))),
 ob 7 (.mv (.cst (.bool false)))] false [0,1,2]) q147_7)
theorem ok147:compFn Tryz.prog ann147 Tryz.f147=some fn147:=by kernel_rfl
def q148_0:ACode :=
 (.seq (.region [
 ob 5 (.faddr 0 (.tmp 2)),
 ob 6 (.load1 (.tmp 5)),
 ob 7 (.mv (.tmp 1)),
 ob 8 (.call 149 [(.tmp 6),(.tmp 7)]),
 ob 4 (.mv (.tmp 8))] false [4]) (.ret))
def E148:=exK_head q148_0.eq_1
def ann148:Ann:={ n:=9,own:=[],lv:=[(0,[1,2]),(1,[4])],lp:=[] }
def fn148:AFn:=AFn.mk 2 [.tmp 4]
 (.seq (.region [
 ob 2 (.box (.tmp 0)),
 ob 4 (.mv (.cst (.int .i64 0)))] false [1,2]) q148_0)
theorem ok148:compFn Tryz.prog ann148 Tryz.f148=some fn148:=by kernel_rfl
def q149_0:ACode :=
 (.seq (.region [
 ob 4 (.mv (.cst (.int .i64 0)))] false [4]) (.ret))
def q149_1:ACode :=
 (.seq (.region [
 ob 4 (.mv (.cst (.int .i64 (-1))))] false [4]) (.ret))
def q149_2:ACode :=
 (.seq (.seq (.region [
 ob 12 (.mv (.tmp 6))] false [12]) (.cond (.tmp 12) q149_0 (.skip))) q149_1)
def q149_3:ACode :=
 (.seq (.region [
 ob 4 (.mv (.cst (.int .i64 1)))] false [4]) (.ret))
def q149_4:ACode :=
 (.seq (.region [
 ob 4 (.mv (.cst (.int .i64 (-1))))] false [4]) (.ret))
def q149_5:ACode :=
 (.seq (.region [
 ob 4 (.mv (.cst (.int .i64 1)))] false [4]) (.ret))
def q149_6:ACode :=
 (.seq (.region [
 ob 4 (.mv (.cst (.int .i64 0)))] false [4]) (.ret))
def q149_7:ACode :=
 (.seq (.seq (.region [
 ob 17 (.mv (.tmp 0)),
 ob 18 (.mv (.tmp 1)),
 ob 19 (.bin .gtr (.tmp 17) (.tmp 18))] false [19]) (.cond (.tmp 19) q149_5 (.skip))) q149_6)
def q149_8:ACode :=
 (.seq (.seq (.region [
 ob 14 (.mv (.tmp 0)),
 ob 15 (.mv (.tmp 1)),
 ob 16 (.bin .lss (.tmp 14) (.tmp 15))] false [0,1,16]) (.cond (.tmp 16) q149_4 (.skip))) q149_7)
def q149_9:ACode :=
 (.seq (.seq (.region [
 ob 13 (.mv (.tmp 6))] false [0,1,13]) (.cond (.tmp 13) q149_3 (.skip))) q149_8)
def q149_10:ACode :=
 (.seq (.seq (.region [
 ob 11 (.mv (.tmp 5))] false [0,1,6,11]) (.cond (.tmp 11) q149_2 (.skip))) q149_9)
def q149_11:ACode :=
 (.seq (.region [
 ob 9 (.mv (.tmp 1)),
 ob 10 (.call 172 [(.tmp 9)]),
 ob 6 (.mv (.tmp 10))] false [0,1,5,6]) q149_10)
def q149_12:ACode :=
 (.seq (.region [
 ob 7 (.mv (.tmp 0)),
 ob 8 (.call 172 [(.tmp 7)]),
 ob 5 (.mv (.tmp 8))] false [0,1,5]) q149_11)
def E149:=And.intro (exK_head q149_0.eq_1) (And.intro (exK_head q149_1.eq_1) (And.intro (exK_head q149_2.eq_1) (And.intro (exK_head q149_3.eq_1) (And.intro (exK_head q149_4.eq_1) (And.intro (exK_head q149_5.eq_1) (And.intro (exK_head q149_6.eq_1) (And.intro (exK_head q149_7.eq_1) (And.intro (exK_head q149_8.eq_1) (And.intro (exK_head q149_9.eq_1) (And.intro (exK_head q149_10.eq_1) (And.intro (exK_head q149_11.eq_1) (exK_head q149_12.eq_1))))))))))))
def ann149:Ann:={ n:=20,own:=[],lv:=[(0,[0,1]),(1,[0,1,5]),(2,[0,1,5,6]),(3,[0,1,6,11]),(4,[12]),(5,[4]),(6,[4]),(7,[0,1,13]),(8,[4]),(9,[0,1,16]),(10,[4]),(11,[19]),(12,[4]),(13,[4])],lp:=[] }
def fn149:AFn:=AFn.mk 2 [.tmp 4]
 (.seq (.region [
 ob 4 (.mv (.cst (.int .i64 0)))] false [0,1]) q149_12)
theorem ok149:compFn Tryz.prog ann149 Tryz.f149=some fn149:=by kernel_rfl
def q150_0:ACode :=
 (.seq (.region [
 ob 36 (.mv (.tmp 5)),
 ob 4 (.mv (.tmp 36))] false [4]) (.ret))
def q150_1:ACode :=
 (.region [
 ob 39 (.mv (.tmp 5)),
 ob 40 (.mv (.tmp 1)),
 ob 41 (.lits 1 [(.tmp 40)]),
 ob 42 (.append 1 8 (.tmp 39) (.tmp 41)),
 ob 5 (.mv (.tmp 42))] false [0,1,5])
def q150_2:ACode :=
 (.seq (.region [
 ob 37 (.faddr 5 (.tmp 6)),
 ob 38 (.load1 (.tmp 37)),
 ob 1 (.mv (.tmp 38))] false [0,1,5]) q150_1)
def q150_3:ACode :=
 (.seq (.seq (.region [
 ob 29 (.mv (.tmp 7)),
 ob 30 (.not (.tmp 29)),
 ob 31 (.mv (.tmp 30)),
 og 32 31 false (.faddr 1 (.tmp 6)),
 og 33 31 false (.load1 (.tmp 32)),
 og 34 31 false (.bin .neq (.tmp 33) (.cst (.int .i64 2))),
 ob 35 (.pick (.tmp 31) (.cst (.bool true)) (.tmp 34))] false [0,5,6,35]) (.cond (.tmp 35) q150_0 (.skip))) q150_2)
def q150_4:ACode :=
 (.block 1 (.seq (.region [
 ob 24 (.mv (.tmp 0)),
 ob 25 (.mv (.tmp 1)),
 ob 26 (.call 75 [(.tmp 24),(.tmp 25)]),
 ob 23 (.mv (.tmp 26)),
 ob 27 (.extract (.tmp 23) 0),
 ob 28 (.extract (.tmp 23) 1),
 ob 6 (.box0 [(.int .i64 0),(.int .i64 0),(.int .i64 0),(.slice .c0 []),(.slice .c0 []),(.int .i64 0)]),
 ox (.store 6 (.tmp 6) (.tmp 27)),
 ob 7 (.mv (.tmp 28))] false [0,5,6,7]) q150_3))
def lb150_0:ACode :=
 (.seq (.seq (.region [
 ob 10 (.mv (.tmp 1)),
 ob 11 (.bin .neq (.tmp 10) (.cst (.int .i64 1))),
 ob 12 (.mv (.tmp 11)),
 og 13 12 true (.mv (.tmp 5)),
 og 14 12 true (.lenV (.tmp 13)),
 og 15 12 true (.mv (.tmp 0)),
 og 16 12 true (.chk (.tmp 15)),
 og 17 12 true (.faddr 0 (.tmp 16)),
 og 18 12 true (.faddr 0 (.tmp 17)),
 og 19 12 true (.load1 (.tmp 18)),
 og 20 12 true (.lenV (.tmp 19)),
 og 21 12 true (.bin .leq (.tmp 14) (.tmp 20)),
 ob 22 (.pick (.tmp 12) (.tmp 21) (.cst (.bool false)))] false [0,1,5,22]) (.cond (.tmp 22) (.skip) (.exit 0))) q150_4)
def q150_5:ACode :=
 (.seq (.region [
 ob 43 (.mv (.tmp 5)),
 ob 4 (.mv (.tmp 43))] false [4]) (.ret))
def q150_6:ACode :=
 (.seq (.block 0 (.loop [0,1,5] lb150_0)) q150_5)
def q150_7:ACode :=
 (.seq (.region [
 ob 8 (.mv (.tmp 1)),
 ob 9 (.litsO 1 [(.tmp 8)]),
 ob 5 (.mv (.tmp 9))] false [0,1,5]) q150_6)
def ann150:Ann:={ n:=44,own:=[9],lv:=[(0,[0,1]),(1,[0,1,5]),(2,[0,1,5,22]),(3,[0,5,6,7]),(4,[0,5,6,35]),(5,[4]),(6,[0,1,5]),(7,[0,1,5]),(8,[4])],lp:=[(2,[0,1,5])] }
def fn150:AFn:=AFn.mk 2 [.tmp 4]
 (.seq (.region [
 ob 4 (.mv (.cst (.slice .c0 [])))] false [0,1]) q150_7)
theorem ok150:compFn Tryz.prog ann150 Tryz.f150=some fn150:=by kernel_rfl
def q170_0:ACode :=
 (.seq (.region [
 ob 10 (.mv (.tmp 0)),
 ob 4 (.mv (.tmp 10)),
 ob 5 (.mv (.cst (.bool false)))] false [4,5]) (.ret))
def q170_1:ACode :=
 (.seq (.region [
 ob 11 (.mv (.tmp 0)),
 ob 12 (.mv (.tmp 1)),
 ob 13 (.lenS (.tmp 12)),
 ob 14 (.sliceS (.tmp 11) (some (.tmp 13)) none),
 ob 4 (.mv (.tmp 14)),
 ob 5 (.mv (.cst (.bool true)))] false [4,5]) (.ret))
def q170_2:ACode :=
 (.seq (.seq (.region [
 ob 6 (.mv (.tmp 0)),
 ob 7 (.mv (.tmp 1)),
 ob 8 (.call 135 [(.tmp 6),(.tmp 7)]),
 ob 9 (.not (.tmp 8))] false [0,1,9]) (.cond (.tmp 9) q170_0 (.skip))) q170_1)
def E170:=And.intro (exK_head q170_0.eq_1) (And.intro (exK_head q170_1.eq_1) (exK_head q170_2.eq_1))
def ann170:Ann:={ n:=15,own:=[],lv:=[(0,[0,1]),(1,[0,1,9]),(2,[4,5]),(3,[4,5])],lp:=[] }
def fn170:AFn:=AFn.mk 2 [.tmp 4,.tmp 5]
 (.seq (.region [
 ob 4 (.mv (.cst (.str []))),
 ob 5 (.mv (.cst (.bool false)))] false [0,1]) q170_2)
theorem ok170:compFn Tryz.prog ann170 Tryz.f170=some fn170:=by kernel_rfl
def q172_0:ACode :=
 (.seq (.region [
 ob 3 (.mv (.tmp 0)),
 ob 4 (.mv (.tmp 0)),
 ob 5 (.bin .neq (.tmp 3) (.tmp 4)),
 ob 2 (.mv (.tmp 5))] false [2]) (.ret))
def E172:=exK_head q172_0.eq_1
def ann172:Ann:={ n:=6,own:=[],lv:=[(0,[0]),(1,[2])],lp:=[] }
def fn172:AFn:=AFn.mk 1 [.tmp 2]
 (.seq (.region [
 ob 2 (.mv (.cst (.bool false)))] false [0]) q172_0)
theorem ok172:compFn Tryz.prog ann172 Tryz.f172=some fn172:=by kernel_rfl
end Go.Proofs.YtannopdcbocngaaGreatDoor
namespace Go.Proofs.YtannopdcbocngaaGreatDoor
open Go Go.RowKit Go.Lib
theorem cell_setCells_some (b:Nat) (vs:List Value) (o:Nat) (w:World) (h:∀j,j<vs.length→(w.cell? ⟨b,o+j,none⟩).isSome=true) (k:Nat) (hk:(w.cell? ⟨b,k,none⟩).isSome=true):((w.setCells b o vs).cell? ⟨b,k,none⟩).isSome=true:=by
 by_cases hin:o≤k∧k<o+vs.length
 ·have:=World.cell?_setCells_in b vs o w h (k-o) (by omega)
  rw [show o+(k-o)=k by omega] at this
  rw [this]
  simp
 ·rw [World.cell?_setCells_out b vs o w ⟨b,k,none⟩ (fun _ _=>by show k<o∨o+vs.length≤k; omega)]
  exact hk
end Go.Proofs.YtannopdcbocngaaGreatDoor
namespace Go.Proofs.YtannopdcbocngaaGreatDoor
open Go Go.RowKit Go.Lib
theorem wp_copy_q {P:Program} (w:World) {o:Oper} {a:Act} {K:Act→World→Prop} {Q:Exit→Act→World→Prop} (d s:Operand) (t t':TypeId)
  (ho:o.op = .call { callee := .builtin .copy,args := #[d,s],argTypes := #[t,t'] }) (v u:Value) (hd:a.eval d=v) (hs:a.eval s=u) {v':Value} {w':World}
  (hr:(Builtin.copy_ #[t,t'] o.type #[v,u]).run P w = .ok v' w') (h:K (a.put o.dst v') w'):o.wp P a w K Q:=by
 unfold Oper.wp execOp
 simp only [ho,resolve,invoke,builtin,Sem.run_bind,Sem.run_pure,Result.andThen_ok,List.map_toArray,List.map_cons,List.map_nil,hd,hs,hr]
 exact h
theorem wpList_copy_q {P:Program} (w:World) {ops:Array Oper} {rest:List Oper} {o:Oper} {a:Act} {Q:Exit→Act→World→Prop} (hgd:o.guard=none) (d s:Operand) (t t':TypeId)
  (ho:o.op = .call { callee := .builtin .copy,args := #[d,s],argTypes := #[t,t'] }) (v u:Value) (hd:a.eval d=v) (hs:a.eval s=u) {v':Value} {w':World}
  (hr:(Builtin.copy_ #[t,t'] o.type #[v,u]).run P w = .ok v' w') (h:wpList P ops Q rest (a.put o.dst v') w'):wpList P ops Q (o::rest) a w :=
 wpList_plain hgd fun _ hK=>wp_copy_q w d s t t' ho v u hd hs hr (hK _ _ h)
theorem step_copy_q {P:Program} {ops:Array Oper} {o:Oper} {a:Act} {w:World} {K:Act→World→Prop} {Q:Exit→Act→World→Prop} {E:Prop}
  (hg:o.guard=none) (d x:Operand) (dT sT:TypeId) (hop:o.op=Op.call { callee:=Callee.builtin Builtin.copy,args := #[d,x],argTypes := #[dT,sT] })
  (v u:Value) (hd:a.eval d=v) (hx:a.eval x=u) {v':Value} {w':World} (hr:(Builtin.copy_ #[dT,sT] o.type #[v,u]).run P w = .ok v' w') (hK:K (a.put o.dst v') w') :
  if Region.wanted o (yielded ops a.tmps)=true then Oper.wp P o a w K Q else E:=by
 have hw:Region.wanted o (yielded ops a.tmps)=true:=by simp [Region.wanted,hg]
 rw [if_pos hw]
 exact wp_copy_q w d x dT sT hop v u hd hx hr hK
theorem run_copyK {P:Program} (w:World) (dT sT ty elem:TypeId) (k b o dLen dCap:Nat) (a:Addr) (sLen sCap:Nat) (cs:List Value) (m:Nat)
  (hu:P.underlying dT=some (.slice elem)) (hs:(P.info? elem).map (·.size)=some k) (hm:m=Nat.min sLen dLen) (hn:cs.length=m*k)
  (hsrc:∀j v,cs[j]?=some v→w.cell? (a.add j)=some v) (hc:∀j,j<cs.length→(w.cell? ⟨b,o+j,none⟩).isSome=true) (hf:∀j,j<cs.length→w.frozen? ⟨b,o+j,none⟩=false) (h1:∀v∈cs,v.oneCell'=true) :
  (Builtin.copy_ #[dT,sT] ty #[.slice (some ⟨b,o,none⟩) dLen dCap,.slice (some a) sLen sCap]).run P w = .ok (goInt m) (w.setCells b o cs):=by
 have hl:=run_loadCells_list (P:=P) w a cs hsrc
 have hst:=run_storeCells_cells (P:=P) b o cs 0 w (by simpa using hc) (by simpa using hf) h1
 cases hq:P.info? elem with
 |none=>simp [hq] at hs
 |some i =>
  have hi:i.size=k:=by simpa [hq] using hs
  simp only [Nat.add_zero] at hst
  rw [hn] at hl
  subst hm
  simp [Builtin.copy_,run_underlying hu,Builtin.lenOf,Builtin.firstCells,sizeOf,typeInfo,hq,hi,hl,hst]
theorem run_overlaps_q {P:Program} (w:World) (tS tR e:TypeId) (ht:P.underlying tS=some (.slice e)) (size:Nat) (hz:∀w,(Go.sizeOf e).run P w = .ok size w)
  (a b:Addr) (la ca lb cb:Nat) (hne:a.block≠b.block) (tA tB:TypeId) (kA:Nat) (vs:Array Value) (hsa:w.shape? a.block=some (tA,kA+1)) (hb:w.heap[b.block]?=some (.cells vs tB (0,0))) :
  (Extern.SlicesOverlaps.overlaps #[tS,tS] #[tR] #[.slice (some a) la ca,.slice (some b) lb cb]).run P w = .ok (.bool false) w:=by
 have hnb:(a.block != b.block)=true:=by simpa using hne
 have hnb':(a.block==b.block)=false:=by simpa using hne
 have hsb:w.shape? b.block=some (tB,vs.size):=by simp [World.shape?,hb]
 have hfb:∀o s,w.frozen? ⟨b.block,o,s⟩=false:=fun o s=>by simp [World.frozen?,hb]
 have hfb':w.frozen? b=false:=by simp [World.frozen?,hb]
 rw [show Extern.SlicesOverlaps.overlaps #[tS,tS] #[tR] #[.slice (some a) la ca,.slice (some b) lb cb]=(underlying tS >>= _) from rfl]
 by_cases h0:la=0∨lb=0∨size=0
 ·simp [run_underlying ht,hz,h0]
 ·cases hfa:w.frozen? a with
  |true=>simp [run_underlying ht,hz,h0,hnb,hnb',frozen,noView,viewAt,mayBeOne,stringish,shape,Sem.run,hsa,hsb,hfa,hfb,hfb']
  |false =>
   cases hfe:w.frozen? { block:=a.block,off:=kA+1 } <;>
   simp [run_underlying ht,hz,h0,hnb,hnb',frozen,noView,viewAt,mayBeOne,stringish,shape,Sem.run,hsa,hsb,hfa,hfb,hfb',hfe]
set_option maxHeartbeats 4000000 in
set_option maxRecDepth 100000 in
theorem ins108_shift (b n c i vb voff vc:Nat) (cs vs:List Value) (w:World) (hi:i<n) (hroom:n+1≤c) (hc63:n+1≤9223372036854775807) (hvb:vb≠b)
  (hcl:cs.length=n*6) (hvl:vs.length=6) (row:Array Value) (tB:TypeId) (hw:w.heap[b]?=some (.cells row tB (0,0))) (hrow:c*6≤row.size)
  (hcs:∀j v,cs[j]?=some v→w.cell? ⟨b,j,none⟩=some v)
  (hvs:∀j v,vs[j]?=some v→w.cell? ⟨vb,voff+j,none⟩=some v) (h1c:∀v∈cs,v.oneCell'=true) (h1v:∀v∈vs,v.oneCell'=true) :
  Calls Tryz.prog 108 #[.slice (some ⟨b,0,none⟩) n c,.int .i64 i,.slice (some ⟨vb,voff,none⟩) 1 vc] w fun e w' =>
   e = .returned (.slice (some ⟨b,0,none⟩) (n+1) c)∧w'=(w.drew.setCells b ((i+1)*6) (cs.drop (i*6))).setCells b (i*6) vs:=by
 have mixed:Tryz.prog.follows .mixedOrders=true:=by kernel_rfl
 have t25:=Tryz.underlying35
 have hz2:¬((i:Int)=(n:Int)):=by omega
 have hsz:(Tryz.prog.info? 64).map (·.size)=some 6:=by kernel_rfl
 have hsp:∀j,j<(n+1)*6→(w.cell? ⟨b,j,none⟩).isSome=true:=fun j hj=>by
  have:(n+1)*6≤row.size:=Nat.le_trans (Nat.mul_le_mul_right _ hroom) hrow
  simp [World.cell?,hw,Array.getElem?_eq_getElem (show j<row.size by omega)]
 have hfz:∀j,w.frozen? ⟨b,j,none⟩=false:=fun j=>by simp [World.frozen?,hw]
 obtain ⟨tA,kA,hsa⟩:∃tA kA,w.shape? vb=some (tA,kA+1):=by
  have h0:=hvs 0 _ (List.getElem?_eq_getElem (by omega))
  unfold World.cell? at h0
  unfold World.shape?
  split at h0
  ·rename_i cc ee ff hb
   simp only [hb]
   simp at h0
   have:=(Array.getElem?_eq_some_iff.1 h0).1
   exact ⟨ee,cc.size-1,by simp; omega⟩
  ·cases h0
 have hov:∀lb cb,(callFunc 151 #[.slice (some ⟨vb,voff,none⟩) 1 vc,.slice (some ⟨b,(i+1)*6,none⟩) lb cb]).run Tryz.prog w = .ok (.value (.bool false)) w:=fun lb cb=>by
  rw [run_callFunc_extern Tryz.func151 (by kernel_rfl) (by kernel_rfl) (by kernel_rfl) (e:=Extern.SlicesOverlaps.overlaps #[35,35] #[4]) (by kernel_rfl),
   run_overlaps_q w 35 4 64 t25 6 Tryz.sizeOf64 ⟨vb,voff,none⟩ ⟨b,(i+1)*6,none⟩ 1 vc lb cb hvb tA tB kA row hsa hw]
  rfl
 have hdl:(cs.drop (i*6)).length=(n-i)*6:=by rw [List.length_drop,hcl]; omega
 have hw1:IntKind.i64.wrap ((i:Int)+1)=(i:Int)+1:=by rw [IntKind.wrap_i64]; omega
 have hb1:(0:Int)≤(i:Int)+1:=by omega
 have hin:i≤n:=by omega
 have htn:((i:Int)+1).toNat=i+1:=by omega
 have hb2:¬(c=i+1):=by omega
 have hb3:(i:Int)≤(n:Int)+1:=by omega
 have hb4:¬(c=i):=by omega
 have hcp1:∀ty dc sc,(Builtin.copy_ #[35,35] ty #[.slice (some ⟨b,(i+1)*6,none⟩) (n-i) dc,.slice (some ⟨b,i*6,none⟩) (n+1-i) sc]).run Tryz.prog w.drew = .ok (goInt ((n-i:Nat):Int)) (w.drew.setCells b ((i+1)*6) (cs.drop (i*6))):=fun ty dc sc =>
  run_copyK w.drew _ _ ty 64 6 b ((i+1)*6) (n-i) dc ⟨b,i*6,none⟩ (n+1-i) sc (cs.drop (i*6)) (n-i) t25 hsz (by simp only [Nat.min_def]; split<;>omega) hdl
   (fun j v hj=>by rw [Addr.add_lit]; exact hcs (i*6+j) v (by rwa [List.getElem?_drop] at hj))
   (fun j hj=>hsp ((i+1)*6+j) (by omega)) (fun j hj=>hfz _) (fun v hv=>h1c v (List.mem_of_mem_drop hv))
 obtain ⟨W1,hW1⟩:∃W1,W1=w.drew.setCells b ((i+1)*6) (cs.drop (i*6)):=⟨_,rfl⟩
 have hsp1:∀q,q<(n+1)*6→(W1.cell? ⟨b,q,none⟩).isSome=true:=fun q hq=>by
  rw [hW1]
  exact cell_setCells_some b _ _ w.drew (fun j hj=>hsp ((i+1)*6+j) (by omega)) _ (hsp q hq)
 have hcp2:∀(W:World),(∀x,W.cell? x=W1.cell? x)→(∀x,W.frozen? x=W1.frozen? x)→∀ty dc,(Builtin.copy_ #[35,35] ty #[.slice (some ⟨b,i*6,none⟩) (n+1-i) dc,.slice (some ⟨vb,voff,none⟩) 1 vc]).run Tryz.prog W = .ok (goInt 1) (W.setCells b (i*6) vs):=fun W hWc hWf ty dc =>
  run_copyK W _ _ ty 64 6 b (i*6) (n+1-i) dc ⟨vb,voff,none⟩ 1 vc vs 1 t25 hsz (by simp only [Nat.min_def]; split<;>omega) (by omega)
   (fun j v hj=>by
    rw [Addr.add_lit,hWc,hW1,World.cell?_setCells_out b _ _ _ _ (fun h _=>absurd h hvb)]
    exact hvs j v hj)
   (fun j hj=>by rw [hWc]; exact hsp1 (i*6+j) (by omega)) (fun j hj=>by rw [hWf,hW1,World.frozen?_setCells]; exact hfz _) h1v
 rw [←hW1] at hcp1
 have hWq:Hid (W1=w.drew.setCells b ((i+1)*6) (cs.drop (i*6))):=hW1
 clear hW1 hw hrow hsa hsp hfz hcs hvs hdl hcl hvl
 go_enter Tryz.func108,Tryz.ntmps108
 go_wp2_with (simp only [hov])
 go_region_law_o (refine step_copy_q rfl _ _ 35 35 rfl _ _ (by simp [Act.eval,Act.put]) (by simp [Act.eval,Act.put]) (hcp1 _ _ _) ?_)
 go_wp2_with (at_builtin; refine wpList_copy_q _ rfl _ _ 35 35 rfl _ _ rfl rfl (hcp2 _ (fun _=>rfl) (fun _=>rfl) _ _) ?_)
 go_ret
 exact ⟨rfl,by rw [←hWq.out]⟩
set_option maxHeartbeats 4000000 in
set_option maxRecDepth 100000 in
theorem ins108_end_room (b n c vb voff vc:Nat) (vs:List Value) (w:World) (hroom:n+1≤c) (hc63:n+1≤9223372036854775807)
  (hvl:vs.length=6) (row:Array Value) (tB:TypeId) (hw:w.heap[b]?=some (.cells row tB (0,0))) (hrow:c*6≤row.size)
  (hvs:∀j v,vs[j]?=some v→w.cell? ⟨vb,voff+j,none⟩=some v) (h1v:∀v∈vs,v.oneCell'=true) :
  Calls Tryz.prog 108 #[.slice (some ⟨b,0,none⟩) n c,.int .i64 n,.slice (some ⟨vb,voff,none⟩) 1 vc] w fun e w' =>
   e = .returned (.slice (some ⟨b,0,none⟩) (n+1) c)∧w'=w.setCells b (n*6) vs:=by
 have t25:=Tryz.underlying35
 obtain ⟨i0,hi0,hz1⟩:∃i0,Tryz.prog.info? 64=some i0∧i0.size=6:=by
  have h0:(Tryz.prog.info? 64).map (fun i=>i.size)=some 6:=by kernel_rfl
  obtain ⟨i0,h1,h2⟩:=Option.map_eq_some_iff.1 h0
  exact ⟨i0,h1,h2⟩
 have hfz:∀j,w.frozen? ⟨b,j,none⟩=false:=fun j=>by simp [World.frozen?,hw]
 have hrun:∀ty,(Builtin.append_ #[35,35] ty #[.slice (some ⟨b,0,none⟩) n c,.slice (some ⟨vb,voff,none⟩) 1 vc]).run Tryz.prog w = .ok (.slice (some ⟨b,0,none⟩) (n+1) c) (w.setCells b (n*6) vs):=fun ty=>by
  have h:=run_append_room_cells (P:=Tryz.prog) w 35 ty 64 i0 t25 hi0 b 0 n c ⟨vb,voff,none⟩ 1 vc vs (by rw [hz1,hvl]) (fun j u hj=>by rw [Addr.add_lit]; exact hvs j u hj) h1v hroom
   (fun j hj=>by
    have:(n+1)*6≤row.size:=Nat.le_trans (Nat.mul_le_mul_right _ hroom) hrow
    rw [hz1]
    simp [World.cell?,hw,Array.getElem?_eq_getElem (show n*6+j<row.size by omega)]) (fun j hj=>hfz _)
  rw [hz1,Nat.zero_add] at h
  exact h
 clear hfz hw hrow hvs
 go_enter Tryz.func108,Tryz.ntmps108
 go_wp2_with (at_builtin; refine Lib.wpList_append_run _ rfl _ _ _ _ rfl _ _ rfl rfl _ _ (hrun _) ?_)
 all_goals (go_ret; exact ⟨rfl,rfl⟩)
set_option maxHeartbeats 4000000 in
set_option maxRecDepth 100000 in
theorem ins108_end_grow (base:Option Addr) (n c vb voff vc:Nat) (cs vs:List Value) (w:World) (hnc:n≤c) (hroom:c<n+1) (hbig:(n+1)*80≤140737488355328)
  (hcl:cs.length=n*6) (hvl:vs.length=6) (hnil:base=none→n=0)
  (hcs:∀a,base=some a→∀j v,cs[j]?=some v→w.cell? (a.add j)=some v)
  (hvs:∀j v,vs[j]?=some v→w.cell? ⟨vb,voff+j,none⟩=some v) (h1v:∀v∈vs,v.oneCell'=true) :
  Calls Tryz.prog 108 #[.slice base n c,.int .i64 n,.slice (some ⟨vb,voff,none⟩) 1 vc] w fun e w' =>
   e = .returned (.slice (some ⟨w.heap.size,0,none⟩) (n+1) (grownCap w (n+1) c 64)) ∧
   w'=w.drew.alloc (.cells ((cs++vs).toArray++Builtin.zeroCells (Value.agg #[.int .i64 0,.int .i64 0,.int .i64 0,.slice none 0 0,.slice none 0 0,.int .i64 0]).cells (grownCap w (n+1) c 64-(n+1))) 64):=by
 have t25:=Tryz.underlying35
 obtain ⟨i0,hi0,hzs,hz0,hzb⟩:∃i0,Tryz.prog.info? 64=some i0∧i0.size=6∧i0.zero=some (.agg #[.int .i64 0,.int .i64 0,.int .i64 0,.slice none 0 0,.slice none 0 0,.int .i64 0])∧i0.bytes=80:=by
  have h0:(Tryz.prog.info? 64).map (fun i=>(i.size,i.zero,i.bytes))=some (6,some (.agg #[.int .i64 0,.int .i64 0,.int .i64 0,.slice none 0 0,.slice none 0 0,.int .i64 0]),80):=by kernel_rfl
  obtain ⟨i0,h1,h2⟩:=Option.map_eq_some_iff.1 h0
  injection h2 with h2 h3
  injection h3 with h3 h4
  exact ⟨i0,h1,h2,h3,h4⟩
 have hsrc:Src Tryz.prog i0.size 35 (.slice (some ⟨vb,voff,none⟩) 1 vc) 1 vs w:=by
  rw [hzs]
  exact Src.ofSlice w t25 ⟨vb,voff,none⟩ 1 vc vs (by omega) (fun j u hj=>by rw [Addr.add_lit]; exact hvs j u hj) h1v
 have hold:(Builtin.firstCells i0.size n (.slice base n c)).run Tryz.prog w.drew = .ok cs.toArray w.drew:=by
  rw [hzs]
  cases base with
  |none =>
   have h0:=hnil rfl
   subst h0
   rw [List.length_eq_zero_iff.1 (by omega:cs.length=0)]
   exact run_firstCells_none w.drew 6 0 0 c
  |some a=>exact run_firstCells_some w.drew 6 n a n c cs (by omega) (fun j v hj=>hcs a rfl j v hj)
 have hrun:∀ty,(Builtin.append_ #[35,35] ty #[.slice base n c,.slice (some ⟨vb,voff,none⟩) 1 vc]).run Tryz.prog w=_:=fun ty =>
  run_append_grow_src w 35 35 ty 64 i0 _ t25 hi0 hz0 base n c cs hold _ 1 vs hsrc hroom (by omega) (by rw [hzb]; exact growslice_fits hroom hbig)
 clear hold hsrc hcs hvs
 go_enter Tryz.func108,Tryz.ntmps108
 cases base with
 |none =>
  have h0:=hnil rfl
  subst h0
  go_wp2_with (at_builtin; refine Lib.wpList_append_run _ rfl _ _ _ _ rfl _ _ rfl rfl _ _ (hrun _) ?_)
  go_ret
  exact ⟨rfl,rfl⟩
 |some a =>
  obtain ⟨ab,ao,asp⟩:=a
  go_wp2_with (at_builtin; refine Lib.wpList_append_run _ rfl _ _ _ _ rfl _ _ rfl rfl _ _ (hrun _) ?_)
  all_goals (go_ret; exact ⟨rfl,rfl⟩)
set_option maxHeartbeats 4000000 in
set_option maxRecDepth 100000 in
theorem ins108_grow (b n c i vb voff vc:Nat) (cs vs:List Value) (w:World) (hi:i<n) (hnc:n≤c) (hroom:c<n+1) (hbig:(n+1)*80≤140737488355328)
  (hcl:cs.length=n*6) (hvl:vs.length=6)
  (hcs:∀j v,cs[j]?=some v→w.cell? ⟨b,j,none⟩=some v)
  (hvs:∀j v,vs[j]?=some v→w.cell? ⟨vb,voff+j,none⟩=some v) (h1c:∀v∈cs,v.oneCell'=true) (h1v:∀v∈vs,v.oneCell'=true) :
  Calls Tryz.prog 108 #[.slice (some ⟨b,0,none⟩) n c,.int .i64 i,.slice (some ⟨vb,voff,none⟩) 1 vc] w fun e w' =>
   e = .returned (.slice (some ⟨w.heap.size,0,none⟩) (n+1) (grownCap w (n+1) c 64)) ∧
   w'=(((w.alloc (.cells ((cs.take (i*6)).toArray++Builtin.zeroCells (Value.agg #[.int .i64 0,.int .i64 0,.int .i64 0,.slice none 0 0,.slice none 0 0,.int .i64 0]).cells (n+1-i)++Builtin.zeroCells (Value.agg #[.int .i64 0,.int .i64 0,.int .i64 0,.slice none 0 0,.slice none 0 0,.int .i64 0]).cells (grownCap w (n+1) c 64-(n+1))) 64)).drew.setCells w.heap.size (i*6) vs).drew).setCells w.heap.size ((i+1)*6) (cs.drop (i*6)):=by
 have mixed:Tryz.prog.follows .mixedOrders=true:=by kernel_rfl
 have t25:=Tryz.underlying35
 obtain ⟨i0,hi0,hzs,hz0,hzb⟩:∃i0,Tryz.prog.info? 64=some i0∧i0.size=6∧i0.zero=some (.agg #[.int .i64 0,.int .i64 0,.int .i64 0,.slice none 0 0,.slice none 0 0,.int .i64 0])∧i0.bytes=80:=by
  have h0:(Tryz.prog.info? 64).map (fun i=>(i.size,i.zero,i.bytes))=some (6,some (.agg #[.int .i64 0,.int .i64 0,.int .i64 0,.slice none 0 0,.slice none 0 0,.int .i64 0]),80):=by kernel_rfl
  obtain ⟨i0,h1,h2⟩:=Option.map_eq_some_iff.1 h0
  injection h2 with h2 h3
  injection h3 with h3 h4
  exact ⟨i0,h1,h2,h3,h4⟩
 have hz2:¬((i:Int)=(n:Int)):=by omega
 have hz3:(c:Int)<(n:Int)+1:=by omega
 have hsz:(Tryz.prog.info? 64).map (·.size)=some 6:=by rw [hi0]; simp [hzs]
 have hbw:b<w.heap.size:=block_lt_of_cell (hcs 0 _ (List.getElem?_eq_getElem (by omega)))
 have hvw:vb<w.heap.size:=block_lt_of_cell (hvs 0 _ (List.getElem?_eq_getElem (by omega)))
 have hkk:(n:Int)+1-(i:Int)=((n+1-i:Nat):Int):=by omega
 have hik:i+(n+1-i)=n+1:=by omega
 have hold:(Builtin.firstCells i0.size i (.slice (some ⟨b,0,none⟩) i c)).run Tryz.prog w.drew = .ok (cs.take (i*6)).toArray w.drew:=by
  rw [hzs]
  exact run_firstCells_some w.drew 6 i ⟨b,0,none⟩ i c (cs.take (i*6)) (by rw [List.length_take]; omega) (fun j v hj=>by
   rw [Addr.add_lit,Nat.zero_add]
   rw [List.getElem?_take] at hj
   split at hj
   ·exact hcs j v hj
   ·cases hj)
 have hrz:∀ty,(Builtin.append_ #[35,3] ty #[.slice (some ⟨b,0,none⟩) i c,.int .i64 ((n:Int)+1-(i:Int))]).run Tryz.prog w =
   .ok (.slice (some ⟨w.heap.size,0,none⟩) (n+1) (grownCap w (n+1) c 64)) (w.drew.alloc (.cells ((cs.take (i*6)).toArray++Builtin.zeroCells (Value.agg #[.int .i64 0,.int .i64 0,.int .i64 0,.slice none 0 0,.slice none 0 0,.int .i64 0]).cells (n+1-i)++Builtin.zeroCells (Value.agg #[.int .i64 0,.int .i64 0,.int .i64 0,.slice none 0 0,.slice none 0 0,.int .i64 0]).cells (grownCap w (n+1) c 64-(n+1))) 64)):=fun ty=>by
  have h:=Lib.run_append_grow_zeros w 35 3 ty 64 i0 _ .i64 .i64 t25 Tryz.underlying3 hi0 hz0 (some ⟨b,0,none⟩) i c (cs.take (i*6)) hold (n+1-i) (by omega) (by omega) (by omega) (by omega) (by rw [hzb]; omega) (by rw [hzb,hik]; exact growslice_fits hroom hbig)
  rw [hik] at h
  rw [hkk]
  exact h
 obtain ⟨G,hG⟩:∃G,G=grownCap w (n+1) c 64:=⟨_,rfl⟩
 obtain ⟨ROW,hROW⟩:∃ROW:Array Value,ROW=(cs.take (i*6)).toArray++Builtin.zeroCells (Value.agg #[.int .i64 0,.int .i64 0,.int .i64 0,.slice none 0 0,.slice none 0 0,.int .i64 0]).cells (n+1-i)++Builtin.zeroCells (Value.agg #[.int .i64 0,.int .i64 0,.int .i64 0,.slice none 0 0,.slice none 0 0,.int .i64 0]).cells (G-(n+1)):=⟨_,rfl⟩
 rw [←hG] at hrz ⊢
 rw [←hROW] at hrz ⊢
 have hRl:(n+1)*6≤ROW.size:=by
  rw [hROW]
  simp [Builtin.zeroCells,Value.cells]
  omega
 obtain ⟨W1,hW1⟩:∃W1,W1=w.drew.alloc (.cells ROW 64):=⟨_,rfl⟩
 rw [←hW1] at hrz
 have hN:∀j,j<(n+1)*6→(W1.cell? ⟨w.heap.size,j,none⟩).isSome=true:=fun j hj=>by
  rw [hW1,World.cell?_alloc_at (w:=w.drew) ROW _ w.heap.size j rfl,Array.getElem?_eq_getElem (by omega)]; rfl
 have hNf:∀j,W1.frozen? ⟨w.heap.size,j,none⟩=false:=fun j=>by rw [hW1]; exact World.frozen?_alloc_at (w:=w.drew) ROW _ w.heap.size j rfl
 have hOb:∀j v,w.cell? ⟨b,j,none⟩=some v→W1.cell? ⟨b,j,none⟩=some v:=fun j v h=>by rw [hW1,World.cell?_alloc_past (w:=w.drew) _ b j hbw]; exact h
 have hOv:∀j v,w.cell? ⟨vb,j,none⟩=some v→W1.cell? ⟨vb,j,none⟩=some v:=fun j v h=>by rw [hW1,World.cell?_alloc_past (w:=w.drew) _ vb j hvw]; exact h
 have hcpA:∀(W:World),(∀x,W.cell? x=W1.cell? x)→(∀x,W.frozen? x=W1.frozen? x)→∀ty dc,(Builtin.copy_ #[35,35] ty #[.slice (some ⟨w.heap.size,i*6,none⟩) (n+1-i) dc,.slice (some ⟨vb,voff,none⟩) 1 vc]).run Tryz.prog W = .ok (goInt 1) (W.setCells w.heap.size (i*6) vs):=fun W hWc hWf ty dc =>
  run_copyK W _ _ ty 64 6 w.heap.size (i*6) (n+1-i) dc ⟨vb,voff,none⟩ 1 vc vs 1 t25 hsz (by simp only [Nat.min_def]; split<;>omega) (by omega)
   (fun j v hj=>by rw [Addr.add_lit,hWc]; exact hOv _ v (hvs j v hj))
   (fun j hj=>by rw [hWc]; exact hN (i*6+j) (by omega)) (fun j hj=>by rw [hWf]; exact hNf _) h1v
 have hGn:n+1≤G:=by rw [hG]; exact grownCap_ge w _ _ _
 have hG63:G≤9223372036854775807:=by
  have:=grownCap_le_maxLen w (n+1) c 64 (by unfold maxLen; omega)
  rw [←hG] at this
  unfold maxLen at this
  omega
 have hGi:¬(G=i):=by omega
 have hGim:¬(G=i+1):=by omega
 have hci:¬(c=i):=by omega
 have hbN:b≠w.heap.size:=by omega
 have hdl:(cs.drop (i*6)).length=(n-i)*6:=by rw [List.length_drop,hcl]; omega
 have hcpB:∀(W:World),(∀x,W.cell? x=(W1.setCells w.heap.size (i*6) vs).cell? x)→(∀x,W.frozen? x=(W1.setCells w.heap.size (i*6) vs).frozen? x)→∀ty dc sc,(Builtin.copy_ #[35,35] ty #[.slice (some ⟨w.heap.size,(i+1)*6,none⟩) (n+1-(i+1)) dc,.slice (some ⟨b,i*6,none⟩) (n-i) sc]).run Tryz.prog W = .ok (goInt ((n-i:Nat):Int)) (W.setCells w.heap.size ((i+1)*6) (cs.drop (i*6))):=fun W hWc hWf ty dc sc =>
  run_copyK W _ _ ty 64 6 w.heap.size ((i+1)*6) (n+1-(i+1)) dc ⟨b,i*6,none⟩ (n-i) sc (cs.drop (i*6)) (n-i) t25 hsz (by simp only [Nat.min_def]; split<;>omega) hdl
   (fun j v hj=>by
    rw [Addr.add_lit,hWc,World.cell?_setCells_out _ _ _ _ _ (fun h _=>absurd h hbN)]
    exact hOb _ v (hcs (i*6+j) v (by rwa [List.getElem?_drop] at hj)))
   (fun j hj=>by rw [hWc]; exact cell_setCells_some _ _ _ W1 (fun t ht=>hN (i*6+t) (by omega)) _ (hN ((i+1)*6+j) (by omega)))
   (fun j hj=>by rw [hWf,World.frozen?_setCells]; exact hNf _) (fun v hv=>h1c v (List.mem_of_mem_drop hv))
 subst hW1
 have hE1:∀x,((w.alloc (.cells ROW 64)).drew).cell? x=(w.drew.alloc (.cells ROW 64)).cell? x:=fun x=>rfl
 have hE2:∀x,((w.alloc (.cells ROW 64)).drew).frozen? x=(w.drew.alloc (.cells ROW 64)).frozen? x:=fun x=>rfl
 have hF1:∀x,(((w.alloc (.cells ROW 64)).drew.setCells w.heap.size (i*6) vs).drew).cell? x=((w.drew.alloc (.cells ROW 64)).setCells w.heap.size (i*6) vs).cell? x:=fun x=>rfl
 have hF2:∀x,(((w.alloc (.cells ROW 64)).drew.setCells w.heap.size (i*6) vs).drew).frozen? x=((w.drew.alloc (.cells ROW 64)).setCells w.heap.size (i*6) vs).frozen? x:=fun x=>rfl
 have hw1:IntKind.i64.wrap ((i:Int)+1)=(i:Int)+1:=by rw [IntKind.wrap_i64]; omega
 have hb1:(0:Int)≤(i:Int)+1:=by omega
 have hin:i≤n:=by omega
 have htn:((i:Int)+1).toNat=i+1:=by omega
 have hb3:(i:Int)≤(n:Int):=by omega
 clear hkk hik hold hROW hG hRl hN hNf hOb hOv hcs hvs hdl hcl hvl
 go_enter Tryz.func108,Tryz.ntmps108
 go_wp2_with (first
  |(at_builtin; refine Lib.wpList_append_run _ rfl _ _ _ _ rfl _ _ rfl rfl _ _ (hrz _) ?_)
  |(at_builtin; refine wpList_copy_q _ rfl _ _ 35 35 rfl _ _ rfl rfl (hcpA _ hE1 hE2 _ _) ?_)
  |(at_builtin; refine wpList_copy_q _ rfl _ _ 35 35 rfl _ _ rfl rfl (hcpB _ (fun _=>rfl) (fun _=>rfl) _ _ _) ?_))
 go_region_law_o (refine step_copy_q rfl _ _ 35 35 rfl (.slice (some ⟨w.heap.size,(i+1)*6,none⟩) (n+1-(i+1)) (G-(i+1))) (.slice (some ⟨b,i*6,none⟩) (n-i) (c-i)) (by simp [Act.eval,Act.put]) (by simp [Act.eval,Act.put]) (hcpB _ hF1 hF2 3 (G-(i+1)) (c-i)) ?_)
 go_wp2
 go_ret
 exact ⟨rfl,rfl⟩
set_option maxHeartbeats 4000000 in
set_option maxRecDepth 100000 in
theorem ins109_shift (b n c i vb voff vc:Nat) (cs vs:List Value) (w:World) (hi:i<n) (hroom:n+1≤c) (hc63:n+1≤9223372036854775807) (hvb:vb≠b)
  (hcl:cs.length=n*3) (hvl:vs.length=3) (row:Array Value) (tB:TypeId) (hw:w.heap[b]?=some (.cells row tB (0,0))) (hrow:c*3≤row.size)
  (hcs:∀j v,cs[j]?=some v→w.cell? ⟨b,j,none⟩=some v)
  (hvs:∀j v,vs[j]?=some v→w.cell? ⟨vb,voff+j,none⟩=some v) (h1c:∀v∈cs,v.oneCell'=true) (h1v:∀v∈vs,v.oneCell'=true) :
  Calls Tryz.prog 109 #[.slice (some ⟨b,0,none⟩) n c,.int .i64 i,.slice (some ⟨vb,voff,none⟩) 1 vc] w fun e w' =>
   e = .returned (.slice (some ⟨b,0,none⟩) (n+1) c)∧w'=(w.drew.setCells b ((i+1)*3) (cs.drop (i*3))).setCells b (i*3) vs:=by
 have mixed:Tryz.prog.follows .mixedOrders=true:=by kernel_rfl
 have t25:=Tryz.underlying62
 have hz2:¬((i:Int)=(n:Int)):=by omega
 have hsz:(Tryz.prog.info? 144).map (·.size)=some 3:=by kernel_rfl
 have hsp:∀j,j<(n+1)*3→(w.cell? ⟨b,j,none⟩).isSome=true:=fun j hj=>by
  have:(n+1)*3≤row.size:=Nat.le_trans (Nat.mul_le_mul_right _ hroom) hrow
  simp [World.cell?,hw,Array.getElem?_eq_getElem (show j<row.size by omega)]
 have hfz:∀j,w.frozen? ⟨b,j,none⟩=false:=fun j=>by simp [World.frozen?,hw]
 obtain ⟨tA,kA,hsa⟩:∃tA kA,w.shape? vb=some (tA,kA+1):=by
  have h0:=hvs 0 _ (List.getElem?_eq_getElem (by omega))
  unfold World.cell? at h0
  unfold World.shape?
  split at h0
  ·rename_i cc ee ff hb
   simp only [hb]
   simp at h0
   have:=(Array.getElem?_eq_some_iff.1 h0).1
   exact ⟨ee,cc.size-1,by simp; omega⟩
  ·cases h0
 have hov:∀lb cb,(callFunc 153 #[.slice (some ⟨vb,voff,none⟩) 1 vc,.slice (some ⟨b,(i+1)*3,none⟩) lb cb]).run Tryz.prog w = .ok (.value (.bool false)) w:=fun lb cb=>by
  rw [run_callFunc_extern Tryz.func153 (by kernel_rfl) (by kernel_rfl) (by kernel_rfl) (e:=Extern.SlicesOverlaps.overlaps #[62,62] #[4]) (by kernel_rfl),
   run_overlaps_q w 62 4 144 t25 3 Tryz.sizeOf144 ⟨vb,voff,none⟩ ⟨b,(i+1)*3,none⟩ 1 vc lb cb hvb tA tB kA row hsa hw]
  rfl
 have hdl:(cs.drop (i*3)).length=(n-i)*3:=by rw [List.length_drop,hcl]; omega
 have hw1:IntKind.i64.wrap ((i:Int)+1)=(i:Int)+1:=by rw [IntKind.wrap_i64]; omega
 have hb1:(0:Int)≤(i:Int)+1:=by omega
 have hin:i≤n:=by omega
 have htn:((i:Int)+1).toNat=i+1:=by omega
 have hb2:¬(c=i+1):=by omega
 have hb3:(i:Int)≤(n:Int)+1:=by omega
 have hb4:¬(c=i):=by omega
 have hcp1:∀ty dc sc,(Builtin.copy_ #[62,62] ty #[.slice (some ⟨b,(i+1)*3,none⟩) (n-i) dc,.slice (some ⟨b,i*3,none⟩) (n+1-i) sc]).run Tryz.prog w.drew = .ok (goInt ((n-i:Nat):Int)) (w.drew.setCells b ((i+1)*3) (cs.drop (i*3))):=fun ty dc sc =>
  run_copyK w.drew _ _ ty 144 3 b ((i+1)*3) (n-i) dc ⟨b,i*3,none⟩ (n+1-i) sc (cs.drop (i*3)) (n-i) t25 hsz (by simp only [Nat.min_def]; split<;>omega) hdl
   (fun j v hj=>by rw [Addr.add_lit]; exact hcs (i*3+j) v (by rwa [List.getElem?_drop] at hj))
   (fun j hj=>hsp ((i+1)*3+j) (by omega)) (fun j hj=>hfz _) (fun v hv=>h1c v (List.mem_of_mem_drop hv))
 obtain ⟨W1,hW1⟩:∃W1,W1=w.drew.setCells b ((i+1)*3) (cs.drop (i*3)):=⟨_,rfl⟩
 have hsp1:∀q,q<(n+1)*3→(W1.cell? ⟨b,q,none⟩).isSome=true:=fun q hq=>by
  rw [hW1]
  exact cell_setCells_some b _ _ w.drew (fun j hj=>hsp ((i+1)*3+j) (by omega)) _ (hsp q hq)
 have hcp2:∀(W:World),(∀x,W.cell? x=W1.cell? x)→(∀x,W.frozen? x=W1.frozen? x)→∀ty dc,(Builtin.copy_ #[62,62] ty #[.slice (some ⟨b,i*3,none⟩) (n+1-i) dc,.slice (some ⟨vb,voff,none⟩) 1 vc]).run Tryz.prog W = .ok (goInt 1) (W.setCells b (i*3) vs):=fun W hWc hWf ty dc =>
  run_copyK W _ _ ty 144 3 b (i*3) (n+1-i) dc ⟨vb,voff,none⟩ 1 vc vs 1 t25 hsz (by simp only [Nat.min_def]; split<;>omega) (by omega)
   (fun j v hj=>by
    rw [Addr.add_lit,hWc,hW1,World.cell?_setCells_out b _ _ _ _ (fun h _=>absurd h hvb)]
    exact hvs j v hj)
   (fun j hj=>by rw [hWc]; exact hsp1 (i*3+j) (by omega)) (fun j hj=>by rw [hWf,hW1,World.frozen?_setCells]; exact hfz _) h1v
 rw [←hW1] at hcp1
 have hWq:Hid (W1=w.drew.setCells b ((i+1)*3) (cs.drop (i*3))):=hW1
 clear hW1 hw hrow hsa hsp hfz hcs hvs hdl hcl hvl
 go_enter Tryz.func109,Tryz.ntmps109
 go_wp2_with (simp only [hov])
 go_region_law_o (refine step_copy_q rfl _ _ 62 62 rfl _ _ (by simp [Act.eval,Act.put]) (by simp [Act.eval,Act.put]) (hcp1 _ _ _) ?_)
 go_wp2_with (at_builtin; refine wpList_copy_q _ rfl _ _ 62 62 rfl _ _ rfl rfl (hcp2 _ (fun _=>rfl) (fun _=>rfl) _ _) ?_)
 go_ret
 exact ⟨rfl,by rw [←hWq.out]⟩
set_option maxHeartbeats 4000000 in
set_option maxRecDepth 100000 in
theorem ins109_end_room (b n c vb voff vc:Nat) (vs:List Value) (w:World) (hroom:n+1≤c) (hc63:n+1≤9223372036854775807)
  (hvl:vs.length=3) (row:Array Value) (tB:TypeId) (hw:w.heap[b]?=some (.cells row tB (0,0))) (hrow:c*3≤row.size)
  (hvs:∀j v,vs[j]?=some v→w.cell? ⟨vb,voff+j,none⟩=some v) (h1v:∀v∈vs,v.oneCell'=true) :
  Calls Tryz.prog 109 #[.slice (some ⟨b,0,none⟩) n c,.int .i64 n,.slice (some ⟨vb,voff,none⟩) 1 vc] w fun e w' =>
   e = .returned (.slice (some ⟨b,0,none⟩) (n+1) c)∧w'=w.setCells b (n*3) vs:=by
 have t25:=Tryz.underlying62
 obtain ⟨i0,hi0,hz1⟩:∃i0,Tryz.prog.info? 144=some i0∧i0.size=3:=by
  have h0:(Tryz.prog.info? 144).map (fun i=>i.size)=some 3:=by kernel_rfl
  obtain ⟨i0,h1,h2⟩:=Option.map_eq_some_iff.1 h0
  exact ⟨i0,h1,h2⟩
 have hfz:∀j,w.frozen? ⟨b,j,none⟩=false:=fun j=>by simp [World.frozen?,hw]
 have hrun:∀ty,(Builtin.append_ #[62,62] ty #[.slice (some ⟨b,0,none⟩) n c,.slice (some ⟨vb,voff,none⟩) 1 vc]).run Tryz.prog w = .ok (.slice (some ⟨b,0,none⟩) (n+1) c) (w.setCells b (n*3) vs):=fun ty=>by
  have h:=run_append_room_cells (P:=Tryz.prog) w 62 ty 144 i0 t25 hi0 b 0 n c ⟨vb,voff,none⟩ 1 vc vs (by rw [hz1,hvl]) (fun j u hj=>by rw [Addr.add_lit]; exact hvs j u hj) h1v hroom
   (fun j hj=>by
    have:(n+1)*3≤row.size:=Nat.le_trans (Nat.mul_le_mul_right _ hroom) hrow
    rw [hz1]
    simp [World.cell?,hw,Array.getElem?_eq_getElem (show n*3+j<row.size by omega)]) (fun j hj=>hfz _)
  rw [hz1,Nat.zero_add] at h
  exact h
 clear hfz hw hrow hvs
 go_enter Tryz.func109,Tryz.ntmps109
 go_wp2_with (at_builtin; refine Lib.wpList_append_run _ rfl _ _ _ _ rfl _ _ rfl rfl _ _ (hrun _) ?_)
 all_goals (go_ret; exact ⟨rfl,rfl⟩)
set_option maxHeartbeats 4000000 in
set_option maxRecDepth 100000 in
theorem ins109_end_grow (base:Option Addr) (n c vb voff vc:Nat) (cs vs:List Value) (w:World) (hnc:n≤c) (hroom:c<n+1) (hbig:(n+1)*32≤140737488355328)
  (hcl:cs.length=n*3) (hvl:vs.length=3) (hnil:base=none→n=0)
  (hcs:∀a,base=some a→∀j v,cs[j]?=some v→w.cell? (a.add j)=some v)
  (hvs:∀j v,vs[j]?=some v→w.cell? ⟨vb,voff+j,none⟩=some v) (h1v:∀v∈vs,v.oneCell'=true) :
  Calls Tryz.prog 109 #[.slice base n c,.int .i64 n,.slice (some ⟨vb,voff,none⟩) 1 vc] w fun e w' =>
   e = .returned (.slice (some ⟨w.heap.size,0,none⟩) (n+1) (grownCap w (n+1) c 144)) ∧
   w'=w.drew.alloc (.cells ((cs++vs).toArray++Builtin.zeroCells (Value.agg #[.string ⟨#[]⟩,.int .i64 0,.int .i64 0]).cells (grownCap w (n+1) c 144-(n+1))) 144):=by
 have t25:=Tryz.underlying62
 obtain ⟨i0,hi0,hzs,hz0,hzb⟩:∃i0,Tryz.prog.info? 144=some i0∧i0.size=3∧i0.zero=some (.agg #[.string ⟨#[]⟩,.int .i64 0,.int .i64 0])∧i0.bytes=32:=by
  have h0:(Tryz.prog.info? 144).map (fun i=>(i.size,i.zero,i.bytes))=some (3,some (.agg #[.string ⟨#[]⟩,.int .i64 0,.int .i64 0]),32):=by kernel_rfl
  obtain ⟨i0,h1,h2⟩:=Option.map_eq_some_iff.1 h0
  injection h2 with h2 h3
  injection h3 with h3 h4
  exact ⟨i0,h1,h2,h3,h4⟩
 have hsrc:Src Tryz.prog i0.size 62 (.slice (some ⟨vb,voff,none⟩) 1 vc) 1 vs w:=by
  rw [hzs]
  exact Src.ofSlice w t25 ⟨vb,voff,none⟩ 1 vc vs (by omega) (fun j u hj=>by rw [Addr.add_lit]; exact hvs j u hj) h1v
 have hold:(Builtin.firstCells i0.size n (.slice base n c)).run Tryz.prog w.drew = .ok cs.toArray w.drew:=by
  rw [hzs]
  cases base with
  |none =>
   have h0:=hnil rfl
   subst h0
   rw [List.length_eq_zero_iff.1 (by omega:cs.length=0)]
   exact run_firstCells_none w.drew 3 0 0 c
  |some a=>exact run_firstCells_some w.drew 3 n a n c cs (by omega) (fun j v hj=>hcs a rfl j v hj)
 have hrun:∀ty,(Builtin.append_ #[62,62] ty #[.slice base n c,.slice (some ⟨vb,voff,none⟩) 1 vc]).run Tryz.prog w=_:=fun ty =>
  run_append_grow_src w 62 62 ty 144 i0 _ t25 hi0 hz0 base n c cs hold _ 1 vs hsrc hroom (by omega) (by rw [hzb]; exact growslice_fits hroom hbig)
 clear hold hsrc hcs hvs
 go_enter Tryz.func109,Tryz.ntmps109
 cases base with
 |none =>
  have h0:=hnil rfl
  subst h0
  go_wp2_with (at_builtin; refine Lib.wpList_append_run _ rfl _ _ _ _ rfl _ _ rfl rfl _ _ (hrun _) ?_)
  go_ret
  exact ⟨rfl,rfl⟩
 |some a =>
  obtain ⟨ab,ao,asp⟩:=a
  go_wp2_with (at_builtin; refine Lib.wpList_append_run _ rfl _ _ _ _ rfl _ _ rfl rfl _ _ (hrun _) ?_)
  all_goals (go_ret; exact ⟨rfl,rfl⟩)
set_option maxHeartbeats 4000000 in
set_option maxRecDepth 100000 in
theorem ins109_grow (b n c i vb voff vc:Nat) (cs vs:List Value) (w:World) (hi:i<n) (hnc:n≤c) (hroom:c<n+1) (hbig:(n+1)*32≤140737488355328)
  (hcl:cs.length=n*3) (hvl:vs.length=3)
  (hcs:∀j v,cs[j]?=some v→w.cell? ⟨b,j,none⟩=some v)
  (hvs:∀j v,vs[j]?=some v→w.cell? ⟨vb,voff+j,none⟩=some v) (h1c:∀v∈cs,v.oneCell'=true) (h1v:∀v∈vs,v.oneCell'=true) :
  Calls Tryz.prog 109 #[.slice (some ⟨b,0,none⟩) n c,.int .i64 i,.slice (some ⟨vb,voff,none⟩) 1 vc] w fun e w' =>
   e = .returned (.slice (some ⟨w.heap.size,0,none⟩) (n+1) (grownCap w (n+1) c 144)) ∧
   w'=(((w.alloc (.cells ((cs.take (i*3)).toArray++Builtin.zeroCells (Value.agg #[.string ⟨#[]⟩,.int .i64 0,.int .i64 0]).cells (n+1-i)++Builtin.zeroCells (Value.agg #[.string ⟨#[]⟩,.int .i64 0,.int .i64 0]).cells (grownCap w (n+1) c 144-(n+1))) 144)).drew.setCells w.heap.size (i*3) vs).drew).setCells w.heap.size ((i+1)*3) (cs.drop (i*3)):=by
 have mixed:Tryz.prog.follows .mixedOrders=true:=by kernel_rfl
 have t25:=Tryz.underlying62
 obtain ⟨i0,hi0,hzs,hz0,hzb⟩:∃i0,Tryz.prog.info? 144=some i0∧i0.size=3∧i0.zero=some (.agg #[.string ⟨#[]⟩,.int .i64 0,.int .i64 0])∧i0.bytes=32:=by
  have h0:(Tryz.prog.info? 144).map (fun i=>(i.size,i.zero,i.bytes))=some (3,some (.agg #[.string ⟨#[]⟩,.int .i64 0,.int .i64 0]),32):=by kernel_rfl
  obtain ⟨i0,h1,h2⟩:=Option.map_eq_some_iff.1 h0
  injection h2 with h2 h3
  injection h3 with h3 h4
  exact ⟨i0,h1,h2,h3,h4⟩
 have hz2:¬((i:Int)=(n:Int)):=by omega
 have hz3:(c:Int)<(n:Int)+1:=by omega
 have hsz:(Tryz.prog.info? 144).map (·.size)=some 3:=by rw [hi0]; simp [hzs]
 have hbw:b<w.heap.size:=block_lt_of_cell (hcs 0 _ (List.getElem?_eq_getElem (by omega)))
 have hvw:vb<w.heap.size:=block_lt_of_cell (hvs 0 _ (List.getElem?_eq_getElem (by omega)))
 have hkk:(n:Int)+1-(i:Int)=((n+1-i:Nat):Int):=by omega
 have hik:i+(n+1-i)=n+1:=by omega
 have hold:(Builtin.firstCells i0.size i (.slice (some ⟨b,0,none⟩) i c)).run Tryz.prog w.drew = .ok (cs.take (i*3)).toArray w.drew:=by
  rw [hzs]
  exact run_firstCells_some w.drew 3 i ⟨b,0,none⟩ i c (cs.take (i*3)) (by rw [List.length_take]; omega) (fun j v hj=>by
   rw [Addr.add_lit,Nat.zero_add]
   rw [List.getElem?_take] at hj
   split at hj
   ·exact hcs j v hj
   ·cases hj)
 have hrz:∀ty,(Builtin.append_ #[62,3] ty #[.slice (some ⟨b,0,none⟩) i c,.int .i64 ((n:Int)+1-(i:Int))]).run Tryz.prog w =
   .ok (.slice (some ⟨w.heap.size,0,none⟩) (n+1) (grownCap w (n+1) c 144)) (w.drew.alloc (.cells ((cs.take (i*3)).toArray++Builtin.zeroCells (Value.agg #[.string ⟨#[]⟩,.int .i64 0,.int .i64 0]).cells (n+1-i)++Builtin.zeroCells (Value.agg #[.string ⟨#[]⟩,.int .i64 0,.int .i64 0]).cells (grownCap w (n+1) c 144-(n+1))) 144)):=fun ty=>by
  have h:=Lib.run_append_grow_zeros w 62 3 ty 144 i0 _ .i64 .i64 t25 Tryz.underlying3 hi0 hz0 (some ⟨b,0,none⟩) i c (cs.take (i*3)) hold (n+1-i) (by omega) (by omega) (by omega) (by omega) (by rw [hzb]; omega) (by rw [hzb,hik]; exact growslice_fits hroom hbig)
  rw [hik] at h
  rw [hkk]
  exact h
 obtain ⟨G,hG⟩:∃G,G=grownCap w (n+1) c 144:=⟨_,rfl⟩
 obtain ⟨ROW,hROW⟩:∃ROW:Array Value,ROW=(cs.take (i*3)).toArray++Builtin.zeroCells (Value.agg #[.string ⟨#[]⟩,.int .i64 0,.int .i64 0]).cells (n+1-i)++Builtin.zeroCells (Value.agg #[.string ⟨#[]⟩,.int .i64 0,.int .i64 0]).cells (G-(n+1)):=⟨_,rfl⟩
 rw [←hG] at hrz ⊢
 rw [←hROW] at hrz ⊢
 have hRl:(n+1)*3≤ROW.size:=by
  rw [hROW]
  simp [Builtin.zeroCells,Value.cells]
  omega
 obtain ⟨W1,hW1⟩:∃W1,W1=w.drew.alloc (.cells ROW 144):=⟨_,rfl⟩
 rw [←hW1] at hrz
 have hN:∀j,j<(n+1)*3→(W1.cell? ⟨w.heap.size,j,none⟩).isSome=true:=fun j hj=>by
  rw [hW1,World.cell?_alloc_at (w:=w.drew) ROW _ w.heap.size j rfl,Array.getElem?_eq_getElem (by omega)]; rfl
 have hNf:∀j,W1.frozen? ⟨w.heap.size,j,none⟩=false:=fun j=>by rw [hW1]; exact World.frozen?_alloc_at (w:=w.drew) ROW _ w.heap.size j rfl
 have hOb:∀j v,w.cell? ⟨b,j,none⟩=some v→W1.cell? ⟨b,j,none⟩=some v:=fun j v h=>by rw [hW1,World.cell?_alloc_past (w:=w.drew) _ b j hbw]; exact h
 have hOv:∀j v,w.cell? ⟨vb,j,none⟩=some v→W1.cell? ⟨vb,j,none⟩=some v:=fun j v h=>by rw [hW1,World.cell?_alloc_past (w:=w.drew) _ vb j hvw]; exact h
 have hcpA:∀(W:World),(∀x,W.cell? x=W1.cell? x)→(∀x,W.frozen? x=W1.frozen? x)→∀ty dc,(Builtin.copy_ #[62,62] ty #[.slice (some ⟨w.heap.size,i*3,none⟩) (n+1-i) dc,.slice (some ⟨vb,voff,none⟩) 1 vc]).run Tryz.prog W = .ok (goInt 1) (W.setCells w.heap.size (i*3) vs):=fun W hWc hWf ty dc =>
  run_copyK W _ _ ty 144 3 w.heap.size (i*3) (n+1-i) dc ⟨vb,voff,none⟩ 1 vc vs 1 t25 hsz (by simp only [Nat.min_def]; split<;>omega) (by omega)
   (fun j v hj=>by rw [Addr.add_lit,hWc]; exact hOv _ v (hvs j v hj))
   (fun j hj=>by rw [hWc]; exact hN (i*3+j) (by omega)) (fun j hj=>by rw [hWf]; exact hNf _) h1v
 have hGn:n+1≤G:=by rw [hG]; exact grownCap_ge w _ _ _
 have hG63:G≤9223372036854775807:=by
  have:=grownCap_le_maxLen w (n+1) c 144 (by unfold maxLen; omega)
  rw [←hG] at this
  unfold maxLen at this
  omega
 have hGi:¬(G=i):=by omega
 have hGim:¬(G=i+1):=by omega
 have hci:¬(c=i):=by omega
 have hbN:b≠w.heap.size:=by omega
 have hdl:(cs.drop (i*3)).length=(n-i)*3:=by rw [List.length_drop,hcl]; omega
 have hcpB:∀(W:World),(∀x,W.cell? x=(W1.setCells w.heap.size (i*3) vs).cell? x)→(∀x,W.frozen? x=(W1.setCells w.heap.size (i*3) vs).frozen? x)→∀ty dc sc,(Builtin.copy_ #[62,62] ty #[.slice (some ⟨w.heap.size,(i+1)*3,none⟩) (n+1-(i+1)) dc,.slice (some ⟨b,i*3,none⟩) (n-i) sc]).run Tryz.prog W = .ok (goInt ((n-i:Nat):Int)) (W.setCells w.heap.size ((i+1)*3) (cs.drop (i*3))):=fun W hWc hWf ty dc sc =>
  run_copyK W _ _ ty 144 3 w.heap.size ((i+1)*3) (n+1-(i+1)) dc ⟨b,i*3,none⟩ (n-i) sc (cs.drop (i*3)) (n-i) t25 hsz (by simp only [Nat.min_def]; split<;>omega) hdl
   (fun j v hj=>by
    rw [Addr.add_lit,hWc,World.cell?_setCells_out _ _ _ _ _ (fun h _=>absurd h hbN)]
    exact hOb _ v (hcs (i*3+j) v (by rwa [List.getElem?_drop] at hj)))
   (fun j hj=>by rw [hWc]; exact cell_setCells_some _ _ _ W1 (fun t ht=>hN (i*3+t) (by omega)) _ (hN ((i+1)*3+j) (by omega)))
   (fun j hj=>by rw [hWf,World.frozen?_setCells]; exact hNf _) (fun v hv=>h1c v (List.mem_of_mem_drop hv))
 subst hW1
 have hE1:∀x,((w.alloc (.cells ROW 144)).drew).cell? x=(w.drew.alloc (.cells ROW 144)).cell? x:=fun x=>rfl
 have hE2:∀x,((w.alloc (.cells ROW 144)).drew).frozen? x=(w.drew.alloc (.cells ROW 144)).frozen? x:=fun x=>rfl
 have hF1:∀x,(((w.alloc (.cells ROW 144)).drew.setCells w.heap.size (i*3) vs).drew).cell? x=((w.drew.alloc (.cells ROW 144)).setCells w.heap.size (i*3) vs).cell? x:=fun x=>rfl
 have hF2:∀x,(((w.alloc (.cells ROW 144)).drew.setCells w.heap.size (i*3) vs).drew).frozen? x=((w.drew.alloc (.cells ROW 144)).setCells w.heap.size (i*3) vs).frozen? x:=fun x=>rfl
 have hw1:IntKind.i64.wrap ((i:Int)+1)=(i:Int)+1:=by rw [IntKind.wrap_i64]; omega
 have hb1:(0:Int)≤(i:Int)+1:=by omega
 have hin:i≤n:=by omega
 have htn:((i:Int)+1).toNat=i+1:=by omega
 have hb3:(i:Int)≤(n:Int):=by omega
 clear hkk hik hold hROW hG hRl hN hNf hOb hOv hcs hvs hdl hcl hvl
 go_enter Tryz.func109,Tryz.ntmps109
 go_wp2_with (first
  |(at_builtin; refine Lib.wpList_append_run _ rfl _ _ _ _ rfl _ _ rfl rfl _ _ (hrz _) ?_)
  |(at_builtin; refine wpList_copy_q _ rfl _ _ 62 62 rfl _ _ rfl rfl (hcpA _ hE1 hE2 _ _) ?_)
  |(at_builtin; refine wpList_copy_q _ rfl _ _ 62 62 rfl _ _ rfl rfl (hcpB _ (fun _=>rfl) (fun _=>rfl) _ _ _) ?_))
 go_region_law_o (refine step_copy_q rfl _ _ 62 62 rfl (.slice (some ⟨w.heap.size,(i+1)*3,none⟩) (n+1-(i+1)) (G-(i+1))) (.slice (some ⟨b,i*3,none⟩) (n-i) (c-i)) (by simp [Act.eval,Act.put]) (by simp [Act.eval,Act.put]) (hcpB _ hF1 hF2 3 (G-(i+1)) (c-i)) ?_)
 go_wp2
 go_ret
 exact ⟨rfl,rfl⟩
end Go.Proofs.YtannopdcbocngaaGreatDoor
namespace Go.Proofs.YtannopdcbocngaaGreatDoor
open Go Go.RowKit Go.Lib
set_option maxHeartbeats 2000000 in
set_option maxRecDepth 100000 in
theorem clone110 (b off n c:Nat) (news:List Value) (w:World) (hl:news.length=n*3) (hn:n≤maxLen) (hbig:n*32≤140737488355328)
  (hc:∀j u,news[j]?=some u→w.cell? ⟨b,off+j,none⟩=some u) (h1:∀u∈news,u.oneCell'=true) :
  Calls Tryz.prog 110 #[.slice (some ⟨b,off,none⟩) n c] w fun e w'=>∃v',e = .returned v'∧w'.ownsRow w.heap.size 144 3 v' n news∧v' ≠ .slice none 0 0∧Below w.heap.size w w':=by
 have mixed:Tryz.prog.follows .mixedOrders=true:=by kernel_rfl
 have t22:=Tryz.underlying62
 obtain ⟨i0,hi,hz1,hz0,hz2⟩:∃i0,Tryz.prog.info? 144=some i0∧i0.size=3∧i0.zero=some (.agg #[.string ⟨#[]⟩,.int .i64 0,.int .i64 0])∧i0.bytes=32:=by
  have h0:(Tryz.prog.info? 144).map (fun i=>(i.size,i.zero,i.bytes))=some (3,some (.agg #[.string ⟨#[]⟩,.int .i64 0,.int .i64 0]),32):=by kernel_rfl
  obtain ⟨i0,h1,h2⟩:=Option.map_eq_some_iff.1 h0
  injection h2 with h2 h3
  injection h3 with h3 h4
  exact ⟨i0,h1,h2,h3,h4⟩
 have q22:∀(w:World) (a:Option Addr) (n c n' c':Nat),(binOp .eql 62 (.slice a n c) (.slice none n' c')).run Tryz.prog w = .ok (.bool a.isNone) w:=fun w a n c n' c'=>Lib.run_eql_slice_nil w _ _ a n c n' c' t22
 have u22:∀w,Sem.run Tryz.prog (underlying 62) w = .ok (TypeDesc.slice 144) w:=run_underlying t22
 have A:Aside (∀j u,news[j]?=some u→w.cell? ⟨b,off+j,none⟩=some u):=hc
 clear hc
 go_enter Tryz.func110,Tryz.ntmps110
 go_wp2_with (at_builtin; refine wpList_append_own _ rfl _ _ 62 rfl w.heap.size 144 i0 (.agg #[.string ⟨#[]⟩,.int .i64 0,.int .i64 0]) 3 32 t22 hi hz0 hz1 hz2 rfl (by omega) _ _ _ rfl (World.ownsRow_made w #[] 0 (Nat.le_refl _) (Nat.zero_le _) (by simp)) ⟨b,off,none⟩ n c news rfl ?qc1 ?qc2 ?qc3 ?qc4 ?qc5 ?qc6 ?_)
 case qc1=>exact hl
 case qc2 =>
  intro j u hj
  rw [Addr.add_lit]
  exact Lib.cell?_alloc_some _ (A.out j u hj)
 case qc3=>exact h1
 case qc4=>rw [Nat.zero_add]; exact hn
 case qc5=>rw [Nat.zero_add]; exact hbig
 case qc6=>simp
 intro v' w1 hown hgrow hnil
 go_wp2
 go_ret
 refine ⟨v',rfl,by simpa using hown,?_,?_⟩
 ·exact hnil
 ·exact ((Below.refl _ w).alloc (Nat.le_refl _) _).grown hgrow (by simp) (by intro k hk; simp [Value.ownBlock] at hk; omega)
set_option maxHeartbeats 2000000 in
set_option maxRecDepth 100000 in
theorem clone110_none (A:Option Addr) (c:Nat) (w:World) :
  Calls Tryz.prog 110 #[.slice A 0 c] w fun e w'=>(∃B,e = .returned (.slice B 0 0))∧Below w.heap.size w w':=by
 have mixed:Tryz.prog.follows .mixedOrders=true:=by kernel_rfl
 have t22:=Tryz.underlying62
 have q22:∀(w:World) (a:Option Addr) (n c n' c':Nat),(binOp .eql 62 (.slice a n c) (.slice none n' c')).run Tryz.prog w = .ok (.bool a.isNone) w:=fun w a n c n' c'=>Lib.run_eql_slice_nil w _ _ a n c n' c' t22
 have u22:∀w,Sem.run Tryz.prog (underlying 62) w = .ok (TypeDesc.slice 144) w:=run_underlying t22
 cases A with
 |none =>
  go_enter Tryz.func110,Tryz.ntmps110
  go_wp2
  go_ret
  exact ⟨⟨_,rfl⟩,Below.refl _ _⟩
 |some a =>
  have hrun:∀ty,(Builtin.append_ #[62,62] ty #[.slice (some ⟨w.heap.size,0,none⟩) 0 0,.slice (some a) 0 c]).run Tryz.prog (w.alloc (.cells #[] 144)) = .ok (.slice (some ⟨w.heap.size,0,none⟩) 0 0) (w.alloc (.cells #[] 144)):=fun ty=>by
   have hs:=Tryz.sizeOf144
   simp [Builtin.append_,run_underlying t22,hs,Builtin.lenOf,Builtin.firstCells,loadCells,loadCellsFrom,storeCells]
  go_enter Tryz.func110,Tryz.ntmps110
  go_wp2_with (at_builtin; refine Lib.wpList_append_run _ rfl _ _ _ _ rfl _ _ rfl rfl _ _ (hrun _) ?_)
  go_ret
  exact ⟨⟨_,rfl⟩,(Below.refl _ w).alloc (Nat.le_refl _) _⟩
set_option maxHeartbeats 2000000 in
set_option maxRecDepth 100000 in
theorem clone107 (b off n c:Nat) (news:List Value) (w:World) (hl:news.length=n*6) (hn:n≤maxLen) (hbig:n*80≤140737488355328)
  (hc:∀j u,news[j]?=some u→w.cell? ⟨b,off+j,none⟩=some u) (h1:∀u∈news,u.oneCell'=true) :
  Calls Tryz.prog 107 #[.slice (some ⟨b,off,none⟩) n c] w fun e w'=>∃v',e = .returned v'∧w'.ownsRow w.heap.size 64 6 v' n news∧v' ≠ .slice none 0 0∧Below w.heap.size w w':=by
 have mixed:Tryz.prog.follows .mixedOrders=true:=by kernel_rfl
 have t22:=Tryz.underlying35
 obtain ⟨i0,hi,hz1,hz0,hz2⟩:∃i0,Tryz.prog.info? 64=some i0∧i0.size=6∧i0.zero=some (.agg #[.int .i64 0,.int .i64 0,.int .i64 0,.slice none 0 0,.slice none 0 0,.int .i64 0])∧i0.bytes=80:=by
  have h0:(Tryz.prog.info? 64).map (fun i=>(i.size,i.zero,i.bytes))=some (6,some (.agg #[.int .i64 0,.int .i64 0,.int .i64 0,.slice none 0 0,.slice none 0 0,.int .i64 0]),80):=by kernel_rfl
  obtain ⟨i0,h1,h2⟩:=Option.map_eq_some_iff.1 h0
  injection h2 with h2 h3
  injection h3 with h3 h4
  exact ⟨i0,h1,h2,h3,h4⟩
 have q22:∀(w:World) (a:Option Addr) (n c n' c':Nat),(binOp .eql 35 (.slice a n c) (.slice none n' c')).run Tryz.prog w = .ok (.bool a.isNone) w:=fun w a n c n' c'=>Lib.run_eql_slice_nil w _ _ a n c n' c' t22
 have u22:∀w,Sem.run Tryz.prog (underlying 35) w = .ok (TypeDesc.slice 64) w:=run_underlying t22
 have A:Aside (∀j u,news[j]?=some u→w.cell? ⟨b,off+j,none⟩=some u):=hc
 clear hc
 go_enter Tryz.func107,Tryz.ntmps107
 go_wp2_with (at_builtin; refine wpList_append_own _ rfl _ _ 35 rfl w.heap.size 64 i0 (.agg #[.int .i64 0,.int .i64 0,.int .i64 0,.slice none 0 0,.slice none 0 0,.int .i64 0]) 6 80 t22 hi hz0 hz1 hz2 rfl (by omega) _ _ _ rfl (World.ownsRow_made w #[] 0 (Nat.le_refl _) (Nat.zero_le _) (by simp)) ⟨b,off,none⟩ n c news rfl ?qc1 ?qc2 ?qc3 ?qc4 ?qc5 ?qc6 ?_)
 case qc1=>exact hl
 case qc2 =>
  intro j u hj
  rw [Addr.add_lit]
  exact Lib.cell?_alloc_some _ (A.out j u hj)
 case qc3=>exact h1
 case qc4=>rw [Nat.zero_add]; exact hn
 case qc5=>rw [Nat.zero_add]; exact hbig
 case qc6=>simp
 intro v' w1 hown hgrow hnil
 go_wp2
 go_ret
 refine ⟨v',rfl,by simpa using hown,?_,?_⟩
 ·exact hnil
 ·exact ((Below.refl _ w).alloc (Nat.le_refl _) _).grown hgrow (by simp) (by intro k hk; simp [Value.ownBlock] at hk; omega)
set_option maxHeartbeats 2000000 in
set_option maxRecDepth 100000 in
theorem clone107_none (A:Option Addr) (c:Nat) (w:World) :
  Calls Tryz.prog 107 #[.slice A 0 c] w fun e w'=>(∃B,e = .returned (.slice B 0 0))∧Below w.heap.size w w':=by
 have mixed:Tryz.prog.follows .mixedOrders=true:=by kernel_rfl
 have t22:=Tryz.underlying35
 have q22:∀(w:World) (a:Option Addr) (n c n' c':Nat),(binOp .eql 35 (.slice a n c) (.slice none n' c')).run Tryz.prog w = .ok (.bool a.isNone) w:=fun w a n c n' c'=>Lib.run_eql_slice_nil w _ _ a n c n' c' t22
 have u22:∀w,Sem.run Tryz.prog (underlying 35) w = .ok (TypeDesc.slice 64) w:=run_underlying t22
 cases A with
 |none =>
  go_enter Tryz.func107,Tryz.ntmps107
  go_wp2
  go_ret
  exact ⟨⟨_,rfl⟩,Below.refl _ _⟩
 |some a =>
  have hrun:∀ty,(Builtin.append_ #[35,35] ty #[.slice (some ⟨w.heap.size,0,none⟩) 0 0,.slice (some a) 0 c]).run Tryz.prog (w.alloc (.cells #[] 64)) = .ok (.slice (some ⟨w.heap.size,0,none⟩) 0 0) (w.alloc (.cells #[] 64)):=fun ty=>by
   have hs:=Tryz.sizeOf64
   simp [Builtin.append_,run_underlying t22,hs,Builtin.lenOf,Builtin.firstCells,loadCells,loadCellsFrom,storeCells]
  go_enter Tryz.func107,Tryz.ntmps107
  go_wp2_with (at_builtin; refine Lib.wpList_append_run _ rfl _ _ _ _ rfl _ _ rfl rfl _ _ (hrun _) ?_)
  go_ret
  exact ⟨⟨_,rfl⟩,(Below.refl _ w).alloc (Nat.le_refl _) _⟩
end Go.Proofs.YtannopdcbocngaaGreatDoor
namespace Go.Proofs.YtannopdcbocngaaGreatDoor
open Go Go.Abs Go.RowKit
theorem clones110 {args:List AVal} {M:AMem} {x:AVal×AMem} (h:pClone 3 32 args M=some x):SoundCall Tryz.prog 110 args M x :=
 clone_sound (by omega) (by omega) (fun b off n c news w=>clone110 b off n c news w) (fun A c w=>clone110_none A c w) h
theorem clones107 {args:List AVal} {M:AMem} {x:AVal×AMem} (h:pClone 6 80 args M=some x):SoundCall Tryz.prog 107 args M x :=
 clone_sound (by omega) (by omega) (fun b off n c news w=>clone107 b off n c news w) (fun A c w=>clone107_none A c w) h
theorem ins108_all (b n c i vb voff vc:Nat) (cs vs:List Value) (w:World) (row:Array Value) (t:TypeId) (hi:i≤n) (hnc:n≤c) (hbig:(n+1)*80≤140737488355328) (h63:n+1≤9223372036854775807) (hvb:vb≠b)
  (hcl:cs.length=n*6) (hvl:vs.length=6) (hw:w.heap[b]?=some (.cells row t (0,0))) (hrow:c*6≤row.size) (hat:∀(p:Nat) (v:Value),cs[p]?=some v→row[p]?=some v)
  (hvs:∀(p:Nat) (v:Value),vs[p]?=some v→w.cell? ⟨vb,voff+p,none⟩=some v) (h1c:∀v∈cs,v.oneCell'=true) (h1v:∀v∈vs,v.oneCell'=true) :
  Calls Tryz.prog 108 #[.slice (some ⟨b,0,none⟩) n c,.int .i64 i,.slice (some ⟨vb,voff,none⟩) 1 vc] w (InsPost 6 w b row t n i cs vs):=by
 have hcs:∀(p:Nat) (v:Value),cs[p]?=some v→w.cell? ⟨b,p,none⟩=some v:=fun p v hp=>by simp [World.cell?,hw,hat p v hp]
 by_cases hroom:n+1≤c
 ·by_cases hin:i<n
  ·refine (ins108_shift b n c i vb voff vc cs vs w hin hroom h63 hvb hcl hvl row t hw hrow hcs hvs h1c h1v).mono ?_
   rintro e w' ⟨he,hw'⟩
   exact ins_shift hin hroom hcl hvl hw hrow hat he hw'
  ·obtain rfl:i=n:=by omega
   refine (ins108_end_room b i c vb voff vc vs w hroom h63 hvl row t hw hrow hvs h1v).mono ?_
   rintro e w' ⟨he,hw'⟩
   exact ins_room hroom hcl hvl hw hrow hat he hw'
 ·have hG:=grownCap_ge w (n+1) c 64
  by_cases hin:i<n
  ·refine (ins108_grow b n c i vb voff vc cs vs w hin hnc (by omega) hbig hcl hvl hcs hvs h1c h1v).mono ?_
   rintro e w' ⟨he,hw'⟩
   exact ins_grow (z := .agg #[.int .i64 0,.int .i64 0,.int .i64 0,.slice none 0 0,.slice none 0 0,.int .i64 0]) (by omega) rfl hin hcl hvl hG he hw'
  ·obtain rfl:i=n:=by omega
   refine (ins108_end_grow (some ⟨b,0,none⟩) i c vb voff vc cs vs w hnc (by omega) hbig hcl hvl (by simp) (fun a ha p v hp=>by injection ha with ha; subst ha; rw [Addr.add_lit,Nat.zero_add]; exact hcs p v hp) hvs h1v).mono ?_
   rintro e w' ⟨he,hw'⟩
   exact ins_end_grow (z := .agg #[.int .i64 0,.int .i64 0,.int .i64 0,.slice none 0 0,.slice none 0 0,.int .i64 0]) (by omega) rfl hcl hvl hG he hw'
theorem ins108_nil (A:Option Addr) (vb voff vc:Nat) (vs:List Value) (w:World) (row:Array Value) (hvl:vs.length=6)
  (hvs:∀(p:Nat) (v:Value),vs[p]?=some v→w.cell? ⟨vb,voff+p,none⟩=some v) (h1v:∀v∈vs,v.oneCell'=true) :
  Calls Tryz.prog 108 #[.slice A 0 0,.int .i64 0,.slice (some ⟨vb,voff,none⟩) 1 vc] w (InsPost 6 w w.heap.size row 0 0 0 [] vs):=by
 refine (ins108_end_grow A 0 0 vb voff vc [] vs w (Nat.le_refl _) (by omega) (by omega) rfl hvl (fun _=>rfl) (fun a ha p v hp=>by simp at hp) hvs h1v).mono ?_
 rintro e w' ⟨he,hw'⟩
 exact ins_end_grow (z := .agg #[.int .i64 0,.int .i64 0,.int .i64 0,.slice none 0 0,.slice none 0 0,.int .i64 0]) (by omega) rfl rfl hvl (grownCap_ge w 1 0 64) he hw'
theorem insert108 {args:List AVal} {M:AMem} {x:AVal×AMem} (h:pInsert 6 80 args M=some x):SoundCall Tryz.prog 108 args M x :=
 insert_sound (by omega) (by omega) (fun b n c i vb voff vc cs vs w row t=>ins108_all b n c i vb voff vc cs vs w row t) (fun A vb voff vc vs w row=>ins108_nil A vb voff vc vs w row) h
theorem ins109_all (b n c i vb voff vc:Nat) (cs vs:List Value) (w:World) (row:Array Value) (t:TypeId) (hi:i≤n) (hnc:n≤c) (hbig:(n+1)*32≤140737488355328) (h63:n+1≤9223372036854775807) (hvb:vb≠b)
  (hcl:cs.length=n*3) (hvl:vs.length=3) (hw:w.heap[b]?=some (.cells row t (0,0))) (hrow:c*3≤row.size) (hat:∀(p:Nat) (v:Value),cs[p]?=some v→row[p]?=some v)
  (hvs:∀(p:Nat) (v:Value),vs[p]?=some v→w.cell? ⟨vb,voff+p,none⟩=some v) (h1c:∀v∈cs,v.oneCell'=true) (h1v:∀v∈vs,v.oneCell'=true) :
  Calls Tryz.prog 109 #[.slice (some ⟨b,0,none⟩) n c,.int .i64 i,.slice (some ⟨vb,voff,none⟩) 1 vc] w (InsPost 3 w b row t n i cs vs):=by
 have hcs:∀(p:Nat) (v:Value),cs[p]?=some v→w.cell? ⟨b,p,none⟩=some v:=fun p v hp=>by simp [World.cell?,hw,hat p v hp]
 by_cases hroom:n+1≤c
 ·by_cases hin:i<n
  ·refine (ins109_shift b n c i vb voff vc cs vs w hin hroom h63 hvb hcl hvl row t hw hrow hcs hvs h1c h1v).mono ?_
   rintro e w' ⟨he,hw'⟩
   exact ins_shift hin hroom hcl hvl hw hrow hat he hw'
  ·obtain rfl:i=n:=by omega
   refine (ins109_end_room b i c vb voff vc vs w hroom h63 hvl row t hw hrow hvs h1v).mono ?_
   rintro e w' ⟨he,hw'⟩
   exact ins_room hroom hcl hvl hw hrow hat he hw'
 ·have hG:=grownCap_ge w (n+1) c 144
  by_cases hin:i<n
  ·refine (ins109_grow b n c i vb voff vc cs vs w hin hnc (by omega) hbig hcl hvl hcs hvs h1c h1v).mono ?_
   rintro e w' ⟨he,hw'⟩
   exact ins_grow (z := .agg #[.string ⟨#[]⟩,.int .i64 0,.int .i64 0]) (by omega) rfl hin hcl hvl hG he hw'
  ·obtain rfl:i=n:=by omega
   refine (ins109_end_grow (some ⟨b,0,none⟩) i c vb voff vc cs vs w hnc (by omega) hbig hcl hvl (by simp) (fun a ha p v hp=>by injection ha with ha; subst ha; rw [Addr.add_lit,Nat.zero_add]; exact hcs p v hp) hvs h1v).mono ?_
   rintro e w' ⟨he,hw'⟩
   exact ins_end_grow (z := .agg #[.string ⟨#[]⟩,.int .i64 0,.int .i64 0]) (by omega) rfl hcl hvl hG he hw'
theorem ins109_nil (A:Option Addr) (vb voff vc:Nat) (vs:List Value) (w:World) (row:Array Value) (hvl:vs.length=3)
  (hvs:∀(p:Nat) (v:Value),vs[p]?=some v→w.cell? ⟨vb,voff+p,none⟩=some v) (h1v:∀v∈vs,v.oneCell'=true) :
  Calls Tryz.prog 109 #[.slice A 0 0,.int .i64 0,.slice (some ⟨vb,voff,none⟩) 1 vc] w (InsPost 3 w w.heap.size row 0 0 0 [] vs):=by
 refine (ins109_end_grow A 0 0 vb voff vc [] vs w (Nat.le_refl _) (by omega) (by omega) rfl hvl (fun _=>rfl) (fun a ha p v hp=>by simp at hp) hvs h1v).mono ?_
 rintro e w' ⟨he,hw'⟩
 exact ins_end_grow (z := .agg #[.string ⟨#[]⟩,.int .i64 0,.int .i64 0]) (by omega) rfl rfl hvl (grownCap_ge w 1 0 144) he hw'
theorem insert109 {args:List AVal} {M:AMem} {x:AVal×AMem} (h:pInsert 3 32 args M=some x):SoundCall Tryz.prog 109 args M x :=
 insert_sound (by omega) (by omega) (fun b n c i vb voff vc cs vs w row t=>ins109_all b n c i vb voff vc cs vs w row t) (fun A vb voff vc vs w row=>ins109_nil A vb voff vc vs w row) h
end Go.Proofs.YtannopdcbocngaaGreatDoor
namespace Go.Proofs.YtannopdcbocngaaGreatDoor
open Go Go.Abs Go.RowKit
set_option maxHeartbeats 1000000 in
set_option maxRecDepth 100000 in
theorem compare171 (a b:ByteArray) (w:World) :
  Calls Tryz.prog 171 #[.string a,.string b] w fun e w'=>e = .returned (.int .i64 (Lib.compareBytes a.data.toList b.data.toList))∧w'=w:=by
 go_enter Tryz.func171,Tryz.ntmps171
 go_wp2
 rw [run_callFunc_extern Tryz.func185 (by kernel_rfl) (by kernel_rfl) (by kernel_rfl) (e:=Extern.BytealgCompare.compare) (by kernel_rfl),Lib.run_compareString]
 simp only [Result.andThen]
 rw [Oper.upon_value]
 go_wp2
 go_ret
 exact ⟨rfl,rfl⟩
noncomputable def pCompare:List AVal→AMem→Option (AVal×AMem)
 | [.str a,.str b],M=>some (.int .i64 (Lib.compareBytes a b),M)
 |_,_=>none
theorem compares171 {args:List AVal} {M:AMem} {x:AVal×AMem} (h:pCompare args M=some x):SoundCall Tryz.prog 171 args M x:=by
 unfold pCompare at h
 split at h
 ·rename_i a b
  injection h with h; subst h
  intro j w vs hr hG hl hv
  obtain ⟨l⟩:=vs
  match l,hl with
  | [u1,u2],_ =>
   have h1:=(hv 0 _ u1 rfl rfl).str_inv
   have h2:=(hv 1 _ u2 rfl rfl).str_inv
   subst h1; subst h2
   refine (compare171 (bs a) (bs b) w).mono ?_
   rintro e w' ⟨rfl,rfl⟩
   exact ⟨_,j,rfl,hr,.refl _ _ _,.plain (.int _ _)⟩
 ·cases h
end Go.Proofs.YtannopdcbocngaaGreatDoor
namespace Go.Proofs.YtannopdcbocngaaGreatDoor
open Go Go.Abs Go.RowKit
theorem infoB:∃jj,Tryz.prog.info? 87=some jj∧jj.size≠0:=by
 have h0:(Tryz.prog.info? 87).map (fun i=>i.size)=some 2:=by kernel_rfl
 obtain ⟨i0,h1,h2⟩:=Option.map_eq_some_iff.1 h0
 exact ⟨i0,h1,by omega⟩
set_option maxHeartbeats 1000000 in
set_option maxRecDepth 100000 in
theorem check_used (b:Nat) (w:World) (h0:w.cell? ⟨b,0,none⟩=some (.pointer (some ⟨b,0,none⟩))) :
  Calls Tryz.prog 91 #[.pointer (some ⟨b,0,none⟩)] w fun e w'=>e = .returned (.tuple #[])∧w'=w:=by
 obtain ⟨jj,hj,_⟩:=infoB
 go_enter Tryz.func91,Tryz.ntmps91
 go_wp2
 rw [Lib.run_neq_ptr_same w _ Tryz.underlying85 hj]
 go_wp2
 go_end0
 exact ⟨rfl,rfl⟩
set_option maxHeartbeats 1000000 in
set_option maxRecDepth 100000 in
theorem check_fresh (b t n:Nat) (w:World) (h0:w.cell? ⟨b,0,none⟩=some (.pointer none)) (hsh:w.shape? b=some (t,n)) (hn:0<n) (hfz:w.frozen? ⟨b,0,none⟩=false)
  (hlies:liesAt Tryz.prog Tryz.prog.depth t (n / Tryz.prog.cellsOf t) 0 87 1=true) :
  Calls Tryz.prog 91 #[.pointer (some ⟨b,0,none⟩)] w fun e w'=>e = .returned (.tuple #[])∧w'=w.setCell ⟨b,0,none⟩ (.pointer (some ⟨b,0,none⟩)):=by
 obtain ⟨jj,hj,hjs⟩:=infoB
 go_enter Tryz.func91,Tryz.ntmps91
 go_wp2
 rw [Lib.run_to_unsafe w ⟨b,0,none⟩ Tryz.underlying85 Tryz.underlying177 hj hjs hsh hn]
 simp only [Result.andThen]
 rw [Oper.upon_value]
 go_wp2
 rw [run_callFunc_extern Tryz.func128 (by kernel_rfl) (by kernel_rfl) (by kernel_rfl) (e:=Extern.AbiNoEscape.same) (by kernel_rfl)]
 rw [Lib.run_noEscape]
 simp only [Result.andThen]
 rw [Oper.upon_value]
 go_wp2
 rw [Lib.run_from_unsafe w ⟨b,0,none⟩ Tryz.underlying177 Tryz.underlying85 hj hsh hlies]
 simp only [Result.andThen]
 rw [Oper.upon_value]
 go_wp2
 go_end0
 exact ⟨rfl,rfl⟩
set_option maxHeartbeats 2000000 in
set_option maxRecDepth 100000 in
theorem string_some (b g cap:Nat) (cur:Array Value) (l:List UInt8) (w:World) (hb1:w.cell? ⟨b,1,none⟩=some (.slice (some ⟨g,0,none⟩) l.length cap)) (hg:w.heap[g]?=some (.cells cur 5 (0,0)))
  (hnc:l.length≤cap) (hcs:cap≤cur.size) (h0:l≠[]) (h63:l.length≤9223372036854775807) (hcell:∀(j:Nat) (x:UInt8),l[j]?=some x→w.cell? ⟨g,j,none⟩=some (.int .u8 x.toNat)) :
  Calls Tryz.prog 51 #[.pointer (some ⟨b,0,none⟩)] w fun e w'=>e = .returned (.string ⟨l.toArray⟩)∧w'=w.drew.freeze ⟨g,0,none⟩ l.length:=by
 have mixed:Tryz.prog.follows .mixedOrders=true:=by kernel_rfl
 have hl0:l.length≠0:=by simpa using h0
 have c1:w.drew.cell? ⟨b,1,none⟩=some (.slice (some ⟨g,0,none⟩) l.length cap):=hb1
 have hSD:(Builtin.unsafeSliceData_ #[22] 142 #[.slice (some ⟨g,0,none⟩) l.length cap]).run Tryz.prog w.drew = .ok (.pointer (some ⟨g,0,none⟩)) w.drew :=
  Lib.run_unsafeSliceData_row _ _ _ _ _ _ (by omega)
 have hUS:(Builtin.unsafeString_ #[142,3] 9 #[.pointer (some ⟨g,0,none⟩),.int .i64 l.length]).run Tryz.prog w.drew = .ok (.string ⟨l.toArray⟩) (w.drew.freeze ⟨g,0,none⟩ l.length):=by
  refine Lib.run_unsafeString_row w.drew 142 3 9 5 Tryz.underlying142 (by kernel_rfl) g cur.size (by have hg':w.drew.heap[g]?=some (.cells cur 5 (0,0)):=hg; simp [World.shape?,hg']) l h0 (by omega) h63 ?_
  intro j x hx
  rw [addr_add,Nat.zero_add]
  exact hcell j x hx
 clear hcell hb1 hg
 go_enter Tryz.func51,Tryz.ntmps51
 go_wp2
 go_region
 all_goals (go_wp2; go_ret; exact ⟨rfl,rfl⟩)
set_option maxHeartbeats 2000000 in
set_option maxRecDepth 100000 in
theorem string_none (b:Nat) (w:World) (hb1:w.cell? ⟨b,1,none⟩=some (.slice none 0 0)) :
  Calls Tryz.prog 51 #[.pointer (some ⟨b,0,none⟩)] w fun e w'=>e = .returned (.string ⟨#[]⟩)∧w'=w.drew:=by
 have mixed:Tryz.prog.follows .mixedOrders=true:=by kernel_rfl
 have c1:w.drew.cell? ⟨b,1,none⟩=some (.slice none 0 0):=hb1
 have hSD:(Builtin.unsafeSliceData_ #[22] 142 #[.slice none 0 0]).run Tryz.prog w.drew = .ok (.pointer none) w.drew:=rfl
 have hUS:∀(W:World) (q:Option Addr),(Builtin.unsafeString_ #[142,3] 9 #[.pointer q,.int .i64 0]).run Tryz.prog W = .ok (.string .empty) W:=fun W q=>Lib.run_unsafeString_none W _ _ _ q
 clear hb1
 go_enter Tryz.func51,Tryz.ntmps51
 go_wp2
 go_region
 all_goals (go_wp2; go_ret; exact ⟨rfl,rfl⟩)
def pCheck:List AVal→AMem→Option (AVal×AMem)
 | [.ptr id off],M=>match nth M id with
  |some (.cells cs)=>match cs with
   | .bself id' t::r=>if off=0∧id'=id∧((t=87∧r.length=1)∨(t=96∧r.length=2)) then some (.tuple [],M) else none
   |_=>none
  |_=>none
 |_,_=>none
theorem checks {args:List AVal} {M:AMem} {x:AVal×AMem} (h:pCheck args M=some x):SoundCall Tryz.prog 91 args M x:=by
 unfold pCheck at h
 split at h
 ·rename_i id off
  split at h
  ·rename_i cs hM
   split at h
   ·rename_i id' t r
    split at h
    ·rename_i hc
     obtain ⟨rfl,rfl,hc⟩:=hc
     injection h with h; subst h
     intro j w vs hr hG hl hv
     obtain ⟨u,rfl⟩:=one_arg hl
     rw [nth_eq] at hM
     obtain ⟨b,_,_,hj,rfl⟩:=(hv 0 _ u rfl rfl).ptr_inv
     obtain ⟨us,t0,hw,hlen,hcs,hcell⟩:=box_cell hr hM hj
     have hlen':us.size=r.length+1:=by simpa using hlen.symm
     have h0:us[0]?=some (us[0]'(by omega)):=Array.getElem?_eq_getElem (by omega)
     obtain ⟨b',_,hj',⟨vs',fr,hk⟩,hv0⟩:=(hcs 0 _ _ rfl h0).bself_inv
     rw [hj] at hj'; injection hj' with hj'; subst hj'
     rw [hw] at hk; injection hk with hk; injection hk with _ ht _
     subst ht
     rcases hv0 with hv0|hv0
     ·have hc0:w.cell? ⟨b,0,none⟩=some (.pointer none):=by rw [hcell,h0,hv0]
      refine (check_fresh b t0 us.size w hc0 (by simp [World.shape?,hw]) (by omega) (by simp [World.frozen?,hw]) ?_).mono ?_
      ·rcases hc with ⟨rfl,hr1⟩|⟨rfl,hr1⟩
       ·rw [show us.size=2 by omega]; kernel_rfl
       ·rw [show us.size=3 by omega]; kernel_rfl
      ·rintro e w' ⟨rfl,rfl⟩
       have hw':(w.setCell ⟨b,0,none⟩ (.pointer (some ⟨b,0,none⟩))).heap[b]?=some (.cells (us.setIfInBounds 0 (.pointer (some ⟨b,0,none⟩))) t0 (0,0)):=by
        simp [World.setCell,Array.getElem?_modify,hw]
       have hb:∀b',b'≠b→b'<w.heap.size→(w.setCell ⟨b,0,none⟩ (.pointer (some ⟨b,0,none⟩))).heap[b']?=w.heap[b']?:=fun b' hne _=>by
        simp [World.setCell,Array.getElem?_modify,Ne.symm hne]
       have q:Quiet w (w.setCell ⟨b,0,none⟩ (.pointer (some ⟨b,0,none⟩))):=⟨by simp [World.setCell],rfl,rfl,rfl⟩
       have htg:∀(vs:Array Value) (t:TypeId) (fr:Nat×Nat),w.heap[b]?=some (.cells vs t fr)→∃vs' fr',(w.setCell ⟨b,0,none⟩ (.pointer (some ⟨b,0,none⟩))).heap[b]?=some (.cells vs' t fr')∧vs'.size=vs.size:=fun vs t fr h=>by
        rw [hw] at h; injection h with h; injection h with h1 h _; subst h1; subst h; exact ⟨_,_,hw',by simp⟩
       have hset:M.set id' (.cells (.bself id' t0::r))=M:=by
        apply List.ext_getElem?
        intro q
        by_cases hq:id'=q
        ·subst hq; rw [set_same (lt_of_some hM),hM]
        ·rw [set_other hq]
       have ext:=Ext.store (bx' := .cells (.bself id' t0::r)) hM rfl rfl hj hr q hb htg
       have rel:=Rel.store (bx' := .cells (.bself id' t0::r)) hM rfl rfl hj hr q hb htg fun j' M' hx=>⟨_,t0,hw',by simpa using hlen,fun i c v hc' hv'=>by
        cases i with
        |zero =>
         simp at hc'; subst hc'
         have:v = .pointer (some ⟨b,0,none⟩):=by
          have hpos:0<us.size:=by omega
          simpa [hpos] using hv'.symm
         subst this
         obtain ⟨h1,bx,h2,h3⟩:=hx.fix _ _ hM rfl
         obtain ⟨cs',rfl⟩:=tag_cells h3
         exact .bself ⟨_,h2⟩ (h1.trans hj) ⟨_,_,hw'⟩ (.inr rfl)
        |succ i =>
         rw [Array.getElem?_setIfInBounds_ne (by omega)] at hv'
         exact (hcs (i+1) c v hc' hv').mono hx⟩
       rw [hset] at ext rel
       exact ⟨_,j,rfl,rel,ext,.tuple rfl fun i c v h=>by simp at h⟩
     ·have hc0:w.cell? ⟨b,0,none⟩=some (.pointer (some ⟨b,0,none⟩)):=by rw [hcell,h0,hv0]
      refine (check_used b w hc0).mono ?_
      rintro e w' ⟨rfl,rfl⟩
      exact ⟨_,j,rfl,hr,.refl _ _ _,.tuple rfl fun i c v h=>by simp at h⟩
    ·cases h
   ·cases h
  ·cases h
 ·cases h
def pString:List AVal→AMem→Option (AVal×AMem)
 | [.ptr id off],M=>match nth M id with
  |some (.cells cs)=>match cs with
   | .bself id' t :: .obuf k e x l::r=>match nth M k with
    |some (.tick sz n)=>if off=0∧e=5∧n=l.length∧l.length≤2 ^ 44∧(l≠[]∨x=true) then some (.str l,setN (setN M id (.cells (.bself id' t :: .any::r))) k (.tick sz (n+1))) else none
    |_=>none
   |_=>none
  |_=>none
 |_,_=>none
theorem strings {args:List AVal} {M:AMem} {y:AVal×AMem} (h:pString args M=some y):SoundCall Tryz.prog 51 args M y:=by
 unfold pString at h
 split at h
 ·rename_i id off
  split at h
  ·rename_i cs hM
   split at h
   ·rename_i id' t k e x l r
    split at h
    ·rename_i sz n hk
     split at h
     ·rename_i hc
      obtain ⟨rfl,rfl,rfl,hbig,hc⟩:=hc
      injection h with h; subst h
      intro j w vs hr hG hl hv
      obtain ⟨u,rfl⟩:=one_arg hl
      rw [nth_eq] at hM hk
      obtain ⟨b,_,_,hj,rfl⟩:=(hv 0 _ u rfl rfl).ptr_inv
      obtain ⟨us,t0,hw,hlen,hcs,hcell⟩:=box_cell hr hM hj
      have hlen':us.size=r.length+2:=by simpa using hlen.symm
      have h1:us[1]?=some (us[1]'(by omega)):=Array.getElem?_eq_getElem (by omega)
      obtain ⟨n0,g1,g2,g3,g4⟩:=(hcs 1 _ _ rfl h1).obuf_inv
      rw [hk] at g1; injection g1 with g1; injection g1 with g1 g1'
      subst g1; subst g1'
      have hkid:id≠k:=by rintro rfl; rw [hM] at hk; cases hk
      -- the memory behind it
      have q0:Quiet w w:=⟨Nat.le_refl _,rfl,rfl,rfl⟩
      have ext1:=Ext.store (bx' := .cells (.bself id' t :: .any::r)) hM rfl rfl hj hr q0 (fun _ _ _=>rfl) (fun vs t fr h=>⟨vs,fr,h,rfl⟩)
      have rel1:=Rel.store (bx' := .cells (.bself id' t :: .any::r)) hM rfl rfl hj hr q0 (fun _ _ _=>rfl) (fun vs t fr h=>⟨vs,fr,h,rfl⟩) fun j' M' hx=>⟨us,t0,hw,by simpa using hlen,fun i c v hc' hv'=>by
       match i,hc' with
       |0,hc'=>exact (hcs 0 c v hc' hv').mono hx
       |1,hc'=>injection hc' with hc'; subst hc'; exact .any _
       |i+2,hc'=>exact (hcs (i+2) c v hc' hv').mono hx⟩
      have hk1:(M.set id (.cells (.bself id' t :: .any::r)))[k]?=some (.tick 1 l.length):=by rw [set_other hkid]; exact hk
      rw [setN_eq,setN_eq]
      rcases g4 rfl with ⟨p1,p2,A,p3,p4⟩|⟨g,cap,cur,p0,p1,p2,p3,p4,p5⟩
      ·have hl0:l=[]:=List.eq_nil_of_length_eq_zero p2
       subst hl0
       have hx:x=true:=by rcases hc with hc|hc; exact absurd rfl hc; exact hc
       obtain rfl:=p4 hx
       have hc1:w.cell? ⟨b,1,none⟩=some (.slice none 0 0):=by rw [hcell,h1,p3]
       refine (string_none b w hc1).mono ?_
       rintro e w' ⟨rfl,rfl⟩
       have q:Quiet w w.drew:=⟨Nat.le_refl _,rfl,rfl,rfl⟩
       exact ⟨_,upd j k none,rfl,Rel.tickDrop hk1 (Nat.lt_succ_self _) rel1 q (fun _ _ _=>rfl) (fun b vs t fr _ h=>⟨fr,h⟩),ext1.trans (Ext.tickDrop hk1 (Nat.lt_succ_self _) rel1 q (fun _ _ _=>rfl) (fun b vs t fr _ h=>⟨fr,h⟩)),.plain (.str _)⟩
      ·have hl0:l≠[]:=by rintro rfl; simp at p0
       have hc1:w.cell? ⟨b,1,none⟩=some (.slice (some ⟨g,0,none⟩) l.length cap):=by rw [hcell,h1,p2]
       obtain ⟨A,cap',b1,off,sz1,vs1,e1,e2,e3,e4,e5,e6⟩:=g3.slice_inv
       rw [p2] at e1
       have hA:=e3 (by simpa using hl0)
       rw [hA] at e1
       injection e1 with e1 e1' e1''
       injection e1 with e1; injection e1 with e1 e1a
       subst e1; subst e1a
       refine (string_some b g cap cur l w hc1 p3 p5 p4 hl0 (by omega) fun q c hq=>?_).mono ?_
       ·have hq':(l.map u8V)[q]?=some (u8V c):=by rw [List.getElem?_map,hq]; rfl
        have hsz:sz1=1:=(e4 (u8V c) (List.mem_of_getElem? hq')).symm
        subst hsz
        have k1:=e5 q _ 0 (u8V c) hq' rfl
        have k2:=(Rep.plain (j:=j) (M:=M) (e6 q _ 0 (u8V c) hq' rfl)).int_inv
        simp only [Nat.mul_one,Nat.add_zero,Nat.zero_add] at k1 k2
        rw [k1.1,k2]
       ·rintro e w' ⟨rfl,rfl⟩
        have hne:l.length≠0:=by simpa using hl0
        have hfr:∀b',b'≠g→(w.drew.freeze ⟨g,0,none⟩ l.length).heap[b']?=w.heap[b']?:=fun b' hb'=>by
         unfold World.freeze
         rw [if_neg hne]
         show (w.heap.modify g _)[b']?=_
         rw [Array.getElem?_modify,if_neg (Ne.symm hb')]
        have hfg:∀vs t fr,w.heap[g]?=some (.cells vs t fr)→∃fr',(w.drew.freeze ⟨g,0,none⟩ l.length).heap[g]?=some (.cells vs t fr'):=fun vs t fr h=>by
         unfold World.freeze
         rw [if_neg hne]
         show ∃fr',(w.heap.modify g _)[g]?=_
         rw [Array.getElem?_modify,if_pos rfl,h]
         exact ⟨_,rfl⟩
        have q:Quiet w (w.drew.freeze ⟨g,0,none⟩ l.length):=by
         unfold World.freeze
         rw [if_neg hne]
         refine ⟨?_,rfl,rfl,rfl⟩
         show w.heap.size≤(w.heap.modify g _).size
         simp
        have a1:∀b',j k≠some b'→b'<w.heap.size→(w.drew.freeze ⟨g,0,none⟩ l.length).heap[b']?=w.heap[b']?:=fun b' hb' _=>hfr b' (by rintro rfl; exact hb' p1)
        have a2:∀b' vs t fr,j k=some b'→w.heap[b']?=some (.cells vs t fr)→∃fr',(w.drew.freeze ⟨g,0,none⟩ l.length).heap[b']?=some (.cells vs t fr'):=fun b' vs t fr hb' h=>by
         rw [p1] at hb'; injection hb' with hb'; subst hb'
         exact hfg vs t fr h
        exact ⟨_,upd j k none,rfl,Rel.tickDrop hk1 (Nat.lt_succ_self _) rel1 q a1 a2,ext1.trans (Ext.tickDrop hk1 (Nat.lt_succ_self _) rel1 q a1 a2),.plain (.str _)⟩
     ·cases h
    ·cases h
   ·cases h
  ·cases h
 ·cases h
end Go.Proofs.YtannopdcbocngaaGreatDoor
namespace Go.Proofs.YtannopdcbocngaaGreatDoor
open Go Go.Abs
def code:Nat→Option AFn
 |15=>some fn15
 |17=>some fn17
 |19=>some fn19
 |24=>some fn24
 |26=>some fn26
 |43=>some fn43
 |44=>some fn44
 |50=>some fn50
 |55=>some fn55
 |56=>some fn56
 |57=>some fn57
 |59=>some fn59
 |63=>some fn63
 |65=>some fn65
 |68=>some fn68
 |88=>some fn88
 |89=>some fn89
 |96=>some fn96
 |135=>some fn135
 |30=>some fn30
 |31=>some fn31
 |33=>some fn33
 |34=>some fn34
 |37=>some fn37
 |70=>some fn70
 |71=>some fn71
 |72=>some fn72
 |10=>some fn10
 |22=>some fn22
 |52=>some fn52
 |53=>some fn53
 |35=>some fn35
 |36=>some fn36
 |38=>some fn38
 |39=>some fn39
 |74=>some fn74
 |75=>some fn75
 |76=>some fn76
 |77=>some fn77
 |78=>some fn78
 |102=>some fn102
 |103=>some fn103
 |104=>some fn104
 |105=>some fn105
 |106=>some fn106
 |143=>some fn143
 |144=>some fn144
 |145=>some fn145
 |146=>some fn146
 |147=>some fn147
 |148=>some fn148
 |149=>some fn149
 |150=>some fn150
 |170=>some fn170
 |172=>some fn172
 |_=>none
noncomputable def prim:Nat→Option (List AVal→AMem→Option (AVal×AMem))
 |42=>some (pItoa)
 |58=>some (pAtoi)
 |98=>some (pIndexByte)
 |93=>some (pCut)
 |64=>some (pSplitS)
 |48=>some (pJoin)
 |91=>some (pCheck)
 |51=>some (pString)
 |110=>some (pClone 3 32)
 |107=>some (pClone 6 80)
 |108=>some (pInsert 6 80)
 |109=>some (pInsert 3 32)
 |171=>some (pCompare)
 |_=>none
noncomputable def tab:Tab:=⟨code,prim⟩
theorem code_ok (f:Nat) (fn:AFn) (h:code f=some fn):∃A func,Tryz.prog.funcs[f]?=some func∧compFn Tryz.prog A func=some fn:=by
 unfold code at h
 split at h
 ·injection h with h; subst h; exact ⟨_,_,Tryz.func15,ok15⟩
 ·injection h with h; subst h; exact ⟨_,_,Tryz.func17,ok17⟩
 ·injection h with h; subst h; exact ⟨_,_,Tryz.func19,ok19⟩
 ·injection h with h; subst h; exact ⟨_,_,Tryz.func24,ok24⟩
 ·injection h with h; subst h; exact ⟨_,_,Tryz.func26,ok26⟩
 ·injection h with h; subst h; exact ⟨_,_,Tryz.func43,ok43⟩
 ·injection h with h; subst h; exact ⟨_,_,Tryz.func44,ok44⟩
 ·injection h with h; subst h; exact ⟨_,_,Tryz.func50,ok50⟩
 ·injection h with h; subst h; exact ⟨_,_,Tryz.func55,ok55⟩
 ·injection h with h; subst h; exact ⟨_,_,Tryz.func56,ok56⟩
 ·injection h with h; subst h; exact ⟨_,_,Tryz.func57,ok57⟩
 ·injection h with h; subst h; exact ⟨_,_,Tryz.func59,ok59⟩
 ·injection h with h; subst h; exact ⟨_,_,Tryz.func63,ok63⟩
 ·injection h with h; subst h; exact ⟨_,_,Tryz.func65,ok65⟩
 ·injection h with h; subst h; exact ⟨_,_,Tryz.func68,ok68⟩
 ·injection h with h; subst h; exact ⟨_,_,Tryz.func88,ok88⟩
 ·injection h with h; subst h; exact ⟨_,_,Tryz.func89,ok89⟩
 ·injection h with h; subst h; exact ⟨_,_,Tryz.func96,ok96⟩
 ·injection h with h; subst h; exact ⟨_,_,Tryz.func135,ok135⟩
 ·injection h with h; subst h; exact ⟨_,_,Tryz.func30,ok30⟩
 ·injection h with h; subst h; exact ⟨_,_,Tryz.func31,ok31⟩
 ·injection h with h; subst h; exact ⟨_,_,Tryz.func33,ok33⟩
 ·injection h with h; subst h; exact ⟨_,_,Tryz.func34,ok34⟩
 ·injection h with h; subst h; exact ⟨_,_,Tryz.func37,ok37⟩
 ·injection h with h; subst h; exact ⟨_,_,Tryz.func70,ok70⟩
 ·injection h with h; subst h; exact ⟨_,_,Tryz.func71,ok71⟩
 ·injection h with h; subst h; exact ⟨_,_,Tryz.func72,ok72⟩
 ·injection h with h; subst h; exact ⟨_,_,Tryz.func10,ok10⟩
 ·injection h with h; subst h; exact ⟨_,_,Tryz.func22,ok22⟩
 ·injection h with h; subst h; exact ⟨_,_,Tryz.func52,ok52⟩
 ·injection h with h; subst h; exact ⟨_,_,Tryz.func53,ok53⟩
 ·injection h with h; subst h; exact ⟨_,_,Tryz.func35,ok35⟩
 ·injection h with h; subst h; exact ⟨_,_,Tryz.func36,ok36⟩
 ·injection h with h; subst h; exact ⟨_,_,Tryz.func38,ok38⟩
 ·injection h with h; subst h; exact ⟨_,_,Tryz.func39,ok39⟩
 ·injection h with h; subst h; exact ⟨_,_,Tryz.func74,ok74⟩
 ·injection h with h; subst h; exact ⟨_,_,Tryz.func75,ok75⟩
 ·injection h with h; subst h; exact ⟨_,_,Tryz.func76,ok76⟩
 ·injection h with h; subst h; exact ⟨_,_,Tryz.func77,ok77⟩
 ·injection h with h; subst h; exact ⟨_,_,Tryz.func78,ok78⟩
 ·injection h with h; subst h; exact ⟨_,_,Tryz.func102,ok102⟩
 ·injection h with h; subst h; exact ⟨_,_,Tryz.func103,ok103⟩
 ·injection h with h; subst h; exact ⟨_,_,Tryz.func104,ok104⟩
 ·injection h with h; subst h; exact ⟨_,_,Tryz.func105,ok105⟩
 ·injection h with h; subst h; exact ⟨_,_,Tryz.func106,ok106⟩
 ·injection h with h; subst h; exact ⟨_,_,Tryz.func143,ok143⟩
 ·injection h with h; subst h; exact ⟨_,_,Tryz.func144,ok144⟩
 ·injection h with h; subst h; exact ⟨_,_,Tryz.func145,ok145⟩
 ·injection h with h; subst h; exact ⟨_,_,Tryz.func146,ok146⟩
 ·injection h with h; subst h; exact ⟨_,_,Tryz.func147,ok147⟩
 ·injection h with h; subst h; exact ⟨_,_,Tryz.func148,ok148⟩
 ·injection h with h; subst h; exact ⟨_,_,Tryz.func149,ok149⟩
 ·injection h with h; subst h; exact ⟨_,_,Tryz.func150,ok150⟩
 ·injection h with h; subst h; exact ⟨_,_,Tryz.func170,ok170⟩
 ·injection h with h; subst h; exact ⟨_,_,Tryz.func172,ok172⟩
 ·cases h
theorem prim_ok (f:Nat) (g:List AVal→AMem→Option (AVal×AMem)) (h:prim f=some g) (args:List AVal) (M:AMem) (x:AVal×AMem) (hx:g args M=some x):enterable Tryz.prog f=true∧SoundCall Tryz.prog f args M x:=by
 unfold prim at h
 split at h
 ·injection h with h; subst h; exact ⟨by kernel_rfl,itoas hx⟩
 ·injection h with h; subst h; exact ⟨by kernel_rfl,atois hx⟩
 ·injection h with h; subst h; exact ⟨by kernel_rfl,indexBytes hx⟩
 ·injection h with h; subst h; exact ⟨by kernel_rfl,cuts hx⟩
 ·injection h with h; subst h; exact ⟨by kernel_rfl,splits hx⟩
 ·injection h with h; subst h; exact ⟨by kernel_rfl,joins hx⟩
 ·injection h with h; subst h; exact ⟨by kernel_rfl,checks hx⟩
 ·injection h with h; subst h; exact ⟨by kernel_rfl,strings hx⟩
 ·injection h with h; subst h; exact ⟨by kernel_rfl,clones110 hx⟩
 ·injection h with h; subst h; exact ⟨by kernel_rfl,clones107 hx⟩
 ·injection h with h; subst h; exact ⟨by kernel_rfl,insert108 hx⟩
 ·injection h with h; subst h; exact ⟨by kernel_rfl,insert109 hx⟩
 ·injection h with h; subst h; exact ⟨by kernel_rfl,compares171 hx⟩
 ·cases h
theorem tab_ok:TabOk Tryz.prog tab:=⟨code_ok,prim_ok⟩
theorem sound:SoundC Tryz.prog (acall tab):=acall_sound (by kernel_rfl) tab_ok
end Go.Proofs.YtannopdcbocngaaGreatDoor
namespace Go.Proofs.YtannopdcbocngaaGreatDoor
open Go Go.Abs
attribute [local irreducible] exK opsK opK gK forkK kr acall callOp owhen obind
abbrev Bytes:=List UInt8
abbrev eI (n:Int):AVal := .int .i64 n
theorem acall_prim {T:Tab} {f:Nat} {g:List AVal→AMem→Option (AVal×AMem)} {args:List AVal} {M:AMem} {x:AVal×AMem} (hp:T.prim f=some g) (h:g args M=some x):acall T f args M=some x:=by
 unfold acall
 refine lim_some (fun n x h=>acallN_up T n f args M x h) (n:=0) ?_
 unfold acallN
 rw [hp]
 exact h
theorem roomS {a:Nat} (h:a≤1099511627776):roomOk a 1=True:=by
 simp only [eq_iff_iff,iff_true]
 unfold roomOk
 omega
abbrev bld (p k:Nat) (l:Bytes):ABox := .cells [.bself p 87,.obuf k 5 true l]
abbrev bldM (l:Bytes):AMem:=[bld 0 1 l,.tick 1 l.length]
theorem callOpB {C:CallF} {f p k:Nat} {vs:List AVal} {r:AVal} {M:AMem} {l:Bytes} {b':AVal} {n':Nat} (hp:nth M p=some (bld p k l)) (hk:nth M k=some (.tick 1 l.length)) (hpk:p≠k)
  (h:C f (.ptr 0 0::vs) (bldM l)=some (r,[.cells [.bself 0 87,b'],.tick 1 n'])) (h1:vs.all AVal.flat=true) (h2:vs.flatMap AVal.ids=[])
  (h4:vs.map (AVal.ren (idxN [p,k]))=vs) (h5:r.renR (atN [p,k])=r) (h3:r.flatR=true) (hb:b'.flat1=true) :
  callOp C f (.ptr p 0::vs) M=some (r,setN (setN M p (.cells [.bself p 87,b'.ren1 (atN [p,k])])) k (.tick 1 n')):=by
 have hids:(AVal.ptr p 0::vs).flatMap AVal.ids=[p]:=by simp [AVal.ids,AVal.ids1,AVal.ids0,h2]
 have hi:idsAt M [p]=[p,k]:=by simp [idsAt,hp,ABox.ids,AVal.ids1,AVal.ids0]
 have hi2:idsAt M [p,k]=[p,k]:=by simp [idsAt,hp,hk,ABox.ids,AVal.ids1,AVal.ids0]
 have hc:([p]:List Nat).contains k=false:=by simpa using Ne.symm hpk
 have e0:reach1 M [p]=[p,k]:=by
  simp only [reach1,hi,addAll]
  have h1:([p]:List Nat).contains p=true:=by simp
  rw [if_pos h1,if_neg (by simpa using Ne.symm hpk)]
  rfl
 have e2:reach1 M [p,k]=[p,k]:=by
  simp only [reach1,hi2,addAll]
  rw [if_pos (by simp),if_pos (by simp)]
 have e1:reach M [p]=[p,k]:=by
  have ea:addAll [] [p]=[p]:=rfl
  simp only [reach,ea,e0,e2]
 have hfl:(AVal.ptr p 0::vs).all AVal.flat=true:=by simp only [List.all_cons,h1,Bool.and_true]; rfl
 unfold callOp
 rw [if_pos hfl,hids,e1]
 have i0:idxN [p,k] p=0:=by simp [idxN]
 have i1:idxN [p,k] k=1:=by simp [idxN,hpk]
 have hpkm:pickM M (idxN [p,k]) [p,k]=some (bldM l):=by
  simp [pickM,hp,hk,ABox.flat,AVal.flat1,AVal.flat0,ABox.ren,AVal.ren1,AVal.ren0,i0,i1]
 rw [hpkm]
 simp only [obind_some]
 rw [if_pos e2]
 have hrn:(AVal.ptr p 0::vs).map (AVal.ren (idxN [p,k])) = .ptr 0 0::vs:=by
  simp only [List.map_cons,h4]
  simp [AVal.ren,AVal.ren1,AVal.ren0,i0]
 rw [hrn,h]
 simp only [obind_some]
 rw [if_pos ⟨rfl,h3,by simp [ABox.flat,AVal.flat1,AVal.flat0] at hb ⊢; exact hb⟩,h5]
 simp [wback,ABox.ren,AVal.ren1,AVal.ren0,atN,nth]
theorem c91 (l:Bytes):acall tab 91 [.ptr 0 0] (bldM l)=some (.tuple [],bldM l):=acall_prim (g:=pCheck) rfl rfl
theorem k91 (l:Bytes):callOp (acall tab) 91 [.ptr 0 0] (bldM l)=some (.tuple [],bldM l) :=
 callOpB (p:=0) (k:=1) rfl rfl (by decide) (c91 l) rfl rfl rfl rfl rfl rfl
theorem c50 (l s:Bytes) (h:l.length+s.length≤1099511627776):acall tab 50 [.ptr 0 0,.str s] (bldM l)=some (.tuple [eI s.length,.raw .nilIface],bldM (l++s)):=by
 refine acall_ex rfl rfl rfl ?_
 have hr:=roomS h
 simp only [fn50,E50,k91,hr,EVT,EVD,↓reduceIte,Nat.reduceEqDiff,reduceCtorEq,Nat.reduceAdd,Nat.reduceLeDiff,ne_eq,Nat.reduceLT,Int.reduceLT,Int.reduceLE,Int.reduceNeg]
 simp
theorem k50 {p k:Nat} {M:AMem} {l:Bytes} (s:Bytes) (hp:nth M p=some (bld p k l)) (hk:nth M k=some (.tick 1 l.length)) (hpk:p≠k) (h:l.length+s.length≤1099511627776) :
  callOp (acall tab) 50 [.ptr p 0,.str s] M=some (.tuple [eI s.length,.raw .nilIface],setN (setN M p (bld p k (l++s))) k (.tick 1 (l++s).length)):=by
 have:=callOpB (vs:=[.str s]) hp hk hpk (c50 l s h) rfl rfl rfl rfl rfl rfl
 rw [this]
 simp [AVal.ren1,AVal.ren0,atN,nth]
theorem c89 (l:Bytes) (c:UInt8) (h:l.length+1≤1099511627776):acall tab 89 [.ptr 0 0,.int .u8 c.toNat] (bldM l)=some (.raw .nilIface,bldM (l++[c])):=by
 refine acall_ex rfl rfl rfl ?_
 have hr:=roomS h
 have hc:bytesOf [.int .u8 (c.toNat:Int)]=some [c]:=by simp [bytesOf]
 have hm:([AVal.int .u8 (c.toNat:Int)]=[u8V c])=True:=by simp [u8V]
 simp only [fn89,E89,k91,hr,hc,hm,EVT,EVD,↓reduceIte,Nat.reduceEqDiff,reduceCtorEq,Nat.reduceAdd,Nat.reduceLeDiff,ne_eq,Nat.reduceLT,Int.reduceLT,Int.reduceLE,Int.reduceNeg]
 simp
theorem k89 {p k:Nat} {M:AMem} {l:Bytes} (c:UInt8) (hp:nth M p=some (bld p k l)) (hk:nth M k=some (.tick 1 l.length)) (hpk:p≠k) (h:l.length+1≤1099511627776) :
  callOp (acall tab) 89 [.ptr p 0,.int .u8 c.toNat] M=some (.raw .nilIface,setN (setN M p (bld p k (l++[c]))) k (.tick 1 (l++[c]).length)):=by
 have:=callOpB (vs:=[.int .u8 c.toNat]) hp hk hpk (c89 l c h) rfl rfl rfl rfl rfl rfl
 rw [this]
 simp [AVal.ren1,AVal.ren0,atN,nth]
theorem c51 (l:Bytes) (h:l.length≤1099511627776):acall tab 51 [.ptr 0 0] (bldM l)=some (.str l,[.cells [.bself 0 87,.any],.tick 1 (l.length+1)]):=by
 refine acall_prim (g:=pString) rfl ?_
 unfold pString
 simp only [nth]
 rw [if_pos ⟨trivial,trivial,trivial,by omega,.inr trivial⟩]
 rfl
theorem k51 {p k:Nat} {M:AMem} {l:Bytes} (hp:nth M p=some (bld p k l)) (hk:nth M k=some (.tick 1 l.length)) (hpk:p≠k) (h:l.length≤1099511627776) :
  callOp (acall tab) 51 [.ptr p 0] M=some (.str l,setN (setN M p (.cells [.bself p 87,.any])) k (.tick 1 (l.length+1))) :=
 callOpB (vs:=[]) hp hk hpk (c51 l h) rfl rfl rfl rfl rfl rfl
def plainE (c:UInt8):Bool:=(decide (97≤ior .u8 c.toNat 32)&&decide (ior .u8 c.toNat 32≤122))||(decide ((48:Int)≤c.toNat)&&decide ((c.toNat:Int)≤57))||decide (0≤Lib.indexByte [47,46,95,45] c)
theorem c98 (s:Bytes) (c:UInt8):acall tab 98 [.str s,.int .u8 c.toNat] []=some (eI (Lib.indexByte s c),[]):=by
 refine acall_prim (g:=pIndexByte) rfl ?_
 simp [pIndexByte]
theorem k98 (s:Bytes) (c:UInt8) (M:AMem):callOp (acall tab) 98 [.str s,.int .u8 c.toNat] M=some (eI (Lib.indexByte s c),M):=callOp0 (c98 s c) rfl rfl rfl rfl rfl M
theorem c88 (c:UInt8):acall tab 88 [.int .u8 c.toNat] []=some (.bool (plainE c),[]):=by
 refine acall_ex rfl rfl rfl ?_
 simp only [fn88,E88,k98,EVT,EVD,↓reduceIte,Nat.reduceEqDiff,reduceCtorEq,Nat.reduceAdd,Nat.reduceLeDiff,ne_eq,Nat.reduceLT,Int.reduceLT,Int.reduceLE,Int.reduceNeg]
 repeat' (first|(refine fork_split (fun hb=>?_) (fun hb=>?_)<;>simp only [hb,k98,EVT,EVD,↓reduceIte,Nat.reduceEqDiff,reduceCtorEq,Nat.reduceAdd,Nat.reduceLeDiff,ne_eq,Nat.reduceLT,Int.reduceLT,Int.reduceLE,Int.reduceNeg])|(refine guard_split (fun hb=>?_) (fun hb=>?_)<;>simp only [hb,k98,EVT,EVD,↓reduceIte,Nat.reduceEqDiff,reduceCtorEq,Nat.reduceAdd,Nat.reduceLeDiff,ne_eq,Nat.reduceLT,Int.reduceLT,Int.reduceLE,Int.reduceNeg])|(refine opK_pick (fun hb=>?_) (fun hb=>?_)<;>simp only [hb,k98,EVT,EVD,↓reduceIte,Nat.reduceEqDiff,reduceCtorEq,Nat.reduceAdd,Nat.reduceLeDiff,ne_eq,Nat.reduceLT,Int.reduceLT,Int.reduceLE,Int.reduceNeg]))
 all_goals (simp_all [plainE]<;>omega)
end Go.Proofs.YtannopdcbocngaaGreatDoor
namespace Go.Proofs.YtannopdcbocngaaGreatDoor
open Go Go.Abs
attribute [local irreducible] exK opsK opK gK forkK kr acall callOp owhen obind
theorem k88 (c:UInt8) (M:AMem):callOp (acall tab) 88 [.int .u8 c.toNat] M=some (.bool (plainE c),M):=callOp0 (c88 c) rfl rfl rfl rfl rfl M
def hexL:Bytes:=[48,49,50,51,52,53,54,55,56,57,97,98,99,100,101,102]
def hexD (n:Nat):UInt8:=hexL.getD n 0
def escB (c:UInt8):Bytes:=if plainE c then [c] else [37,hexD (c.toNat / 16),hexD (c.toNat % 16)]
def escN (s:Bytes):Bytes:=s.flatMap escB
theorem escB_le (c:UInt8):(escB c).length≤3:=by unfold escB; split<;>simp
theorem escN_le (s:Bytes):(escN s).length≤3*s.length:=by
 induction s with
 |nil=>simp [escN]
 |cons c r ih =>
  have:=escB_le c
  simp only [escN,List.flatMap_cons,List.length_append,List.length_cons] at ih ⊢
  omega
theorem hex_facts:∀n:Nat,n<256→(n:Int).fdiv (2 ^ min (Int.toNat 4) IntKind.u8.bits)=((n / 16:Nat):Int)∧IntKind.u8.wrap (((n / 16:Nat):Int)+1)=((n / 16+1:Nat):Int)∧iand .u8 n 15=((n % 16:Nat):Int)∧IntKind.u8.wrap (((n % 16:Nat):Int)+1)=((n % 16+1:Nat):Int):=by decide +kernel
theorem hex_cut:∀n:Nat,n<16→List.drop n (48::List.take n [49,50,51,52,53,54,55,56,57,97,98,99,100,101,102])=[hexD n]:=by decide +kernel
theorem hex_ok (n:Nat) (h:n<16):(((n+1:Nat):Int)≤((16:Nat):Int)∧((n:Nat):Int)≤((n+1:Nat):Int))=True:=by
 simp only [eq_iff_iff,iff_true]; omega
theorem escN_snoc (pre:Bytes) (c:UInt8):escN (pre++[c])=escN pre++escB c:=by simp [escN]
theorem loop44 (s:Bytes) (hs:s.length≤1000000) (C:CallF) (hC:C=acall tab):∀(r pre:Bytes),s=pre++r→∀(fn:List ARes) (base:Nat) (k:List K),
  exK C fn base (.block 0::k) (.loop [0,3,7,8] lb44_0) [(0,.str s),(3,.ptr 1 0),(7,eI s.length),(8,eI pre.length)] [.tick 1 (escN pre).length,bld 1 0 (escN pre)] =
  kr C fn base k ⟨.normal,[(0,.str s),(3,.ptr 1 0),(7,eI s.length),(8,eI s.length),(9,.bool false)],[.tick 1 (escN s).length,bld 1 0 (escN s)]⟩
 | [],pre,he,fn,base,k=>by
  subst hC
  have:pre=s:=by simpa using he.symm
  subst this
  rw [exK_loop]
  have hlt:decide ((pre.length:Int)<pre.length)=false:=by simp
  simp only [E44,hlt,EVT,EVD,↓reduceIte,Nat.reduceEqDiff,reduceCtorEq,Nat.reduceAdd,Nat.reduceLeDiff,ne_eq,Nat.reduceLT,Int.reduceLT,Int.reduceLE,Int.reduceNeg]
 |c::r,pre,he,fn,base,k=>by
  subst hC
  have hl:pre.length<s.length:=by rw [he]; simp
  have hlt:decide ((pre.length:Int)<s.length)=true:=by simpa using hl
  have hix:s[pre.length]?=some c:=by rw [he]; simp
  have hn:(0:Int)≤pre.length:=by omega
  have hw:IntKind.i64.wrap ((pre.length:Int)+1)=((pre++[c]).length:Int):=by rw [List.length_append,wrapS (by omega) (by omega)]; simp
  have hle:=escN_le pre
  have ih:=loop44 s hs (acall tab) rfl r (pre++[c]) (by simpa using he) fn base k
  rw [exK_loop]
  simp only [E44,hlt,hix,k88,EVT,EVD,↓reduceIte,Nat.reduceEqDiff,reduceCtorEq,Nat.reduceAdd,Nat.reduceLeDiff,ne_eq,Nat.reduceLT,Int.reduceLT,Int.reduceLE,Int.reduceNeg]
  refine fork_split (fun hb=>?_) (fun hb=>?_)
  ·have hk:=k89 (p:=1) (k:=0) (M:=[.tick 1 (escN pre).length,bld 1 0 (escN pre)]) c rfl rfl (by decide) (by omega)
   have he2:escN (pre++[c])=escN pre++[c]:=by rw [escN_snoc,escB,if_pos hb]
   rw [he2] at ih
   simp only [List.length_append,List.length_cons,List.length_nil,Nat.zero_add] at ih hw
   simp only [E44,hb,hk,hw,EVT,EVD,↓reduceIte,Nat.reduceEqDiff,reduceCtorEq,Nat.reduceAdd,Nat.reduceLeDiff,ne_eq,Nat.reduceLT,Int.reduceLT,Int.reduceLE,Int.reduceNeg]
   exact ih
  ·obtain ⟨h1,h2,h3,h4⟩:=hex_facts c.toNat c.toNat_lt
   have ha:c.toNat / 16<16:=by have:=c.toNat_lt; omega
   have hb':c.toNat % 16<16:=by omega
   have hk:=k50 (p:=1) (k:=0) (M:=[.tick 1 (escN pre).length,bld 1 0 (escN pre)]) [37,hexD (c.toNat / 16),hexD (c.toNat % 16)] rfl rfl (by decide) (by simp; omega)
   have he2:escN (pre++[c])=escN pre++[37,hexD (c.toNat / 16),hexD (c.toNat % 16)]:=by rw [escN_snoc,escB,if_neg (by simp [hb])]
   rw [he2] at ih
   simp only [List.length_append,List.length_cons,List.length_nil,Nat.zero_add] at ih hw
   simp only [E44,hb,h1,h2,h3,h4,hex_ok _ ha,hex_ok _ hb',hex_cut _ ha,hex_cut _ hb',hk,hw,EVT,EVD,↓reduceIte,Nat.reduceEqDiff,reduceCtorEq,Nat.reduceAdd,Nat.reduceLeDiff,ne_eq,Nat.reduceLT,Int.reduceLT,Int.reduceLE,Int.reduceNeg]
   exact ih
theorem c44 (s:Bytes) (hs:s.length≤1000000):acall tab 44 [.str s] []=some (.str (escN s),[]):=by
 refine acall_ex rfl rfl rfl ?_
 have h0:=fun fn base k=>loop44 s hs (acall tab) rfl s [] rfl fn base k
 have hle:=escN_le s
 have hk:=k51 (p:=1) (k:=0) (M:=[.tick 1 (escN s).length,bld 1 0 (escN s)]) rfl rfl (by decide) (by omega)
 simp only [fn44,E44,EVT,EVD,↓reduceIte,Nat.reduceEqDiff,reduceCtorEq,Nat.reduceAdd,Nat.reduceLeDiff,ne_eq,Nat.reduceLT,Int.reduceLT,Int.reduceLE,Int.reduceNeg]
 refine (h0 _ _ _).trans ?_
 simp only [E44,hk,EVT,EVD,↓reduceIte,Nat.reduceEqDiff,reduceCtorEq,Nat.reduceAdd,Nat.reduceLeDiff,ne_eq,Nat.reduceLT,Int.reduceLT,Int.reduceLE,Int.reduceNeg]
theorem k44 (s:Bytes) (hs:s.length≤1000000) (M:AMem):callOp (acall tab) 44 [.str s] M=some (.str (escN s),M):=callOp0 (c44 s hs) rfl rfl rfl rfl rfl M
end Go.Proofs.YtannopdcbocngaaGreatDoor
namespace Go.Proofs.YtannopdcbocngaaGreatDoor
open Go Go.Abs
attribute [local irreducible] exK opsK opK gK forkK kr acall callOp owhen obind
def okI (n:Int):Prop := -9223372036854775808≤n∧n≤9223372036854775807
theorem c42 (n:Int) (h:okI n):acall tab 42 [.int .i64 n] []=some (.str (Lib.itoa n),[]):=by
 refine acall_prim (g:=pItoa) rfl ?_
 unfold pItoa
 simp only []
 rw [if_pos ⟨trivial,h.1,h.2⟩]
theorem k42 (n:Int) (h:okI n) (M:AMem):callOp (acall tab) 42 [.int .i64 n] M=some (.str (Lib.itoa n),M):=callOp0 (c42 n h) rfl rfl rfl rfl rfl M
theorem itoa_le {n:Int} (h:okI n):(Lib.itoa n).length≤21:=Lib.itoa_length_le n h.1 h.2
structure Fld where
 word:Bytes
 n:Int
 s:Bytes
 deriving DecidableEq,Inhabited
def eFldC (f:Fld):List AVal:=[.str f.word,.int .i64 f.n,.str f.s]
abbrev eFld (f:Fld):AVal := .agg (eFldC f)
structure FldOk (f:Fld):Prop where
 word:f.word.length≤100000000
 n:okI f.n
 s:f.s.length≤100000000
def fldN (f:Fld):Bytes:=if f.n != 0 then 32::(f.word++[61]++Lib.itoa f.n) else if f.s != [] then 32::(f.word++[61]++f.s) else []
def fldsN (l:List Fld):Bytes:=l.flatMap fldN
def lineN (first:Bytes) (l:List Fld):Bytes:=first++fldsN l
theorem fldN_le {f:Fld} (h:FldOk f):(fldN f).length≤300000000:=by
 have:=itoa_le h.n; have:=h.word; have:=h.s
 unfold fldN
 split
 ·simp; omega
 ·split
  ·simp; omega
  ·simp
theorem fldsN_le:∀ {l:List Fld},(∀f,f∈l→FldOk f)→(fldsN l).length≤300000000*l.length
 | [],_=>by simp [fldsN]
 |f::r,h=>by
  have h1:=fldN_le (h f (by simp))
  have h2:=fldsN_le fun g hg=>h g (List.mem_cons_of_mem _ hg)
  simp only [fldsN,List.flatMap_cons,List.length_append,List.length_cons] at h2 ⊢
  omega
theorem loop43 (l:List Fld) (hok:∀f,f∈l→FldOk f) (hl:l.length≤100) (C:CallF) (hC:C=acall tab):∀(r pre:List Fld),l=pre++r→∀(t:Bytes),t.length≤100000000+300000000*pre.length→∀(fn:List ARes) (base:Nat) (k:List K),
  exK C fn base (.block 0::k) (.loop [5,10,11,12] lb43_0) [(5,.ptr 1 0),(10,.slice .sh (l.map eFld)),(11,eI l.length),(12,eI pre.length)] [.tick 1 t.length,bld 1 0 t] =
  kr C fn base k ⟨.normal,[(5,.ptr 1 0),(10,.slice .sh (l.map eFld)),(11,eI l.length),(12,eI l.length),(13,.bool false)],[.tick 1 (t++fldsN r).length,bld 1 0 (t++fldsN r)]⟩
 | [],pre,he,t,ht,fn,base,k=>by
  subst hC
  have:pre=l:=by simpa using he.symm
  subst this
  rw [exK_loop]
  have hlt:decide ((pre.length:Int)<pre.length)=false:=by simp
  have h0:t++fldsN []=t:=by simp [fldsN]
  rw [h0]
  simp only [E43,hlt,EVT,EVD,↓reduceIte,Nat.reduceEqDiff,reduceCtorEq,Nat.reduceAdd,Nat.reduceLeDiff,ne_eq,Nat.reduceLT,Int.reduceLT,Int.reduceLE,Int.reduceNeg]
 |f::r,pre,he,t,ht,fn,base,k=>by
  subst hC
  have hl':pre.length<l.length:=by rw [he]; simp
  have hlt:decide ((pre.length:Int)<l.length)=true:=by simpa using hl'
  have hix:l[pre.length]?=some f:=by rw [he]; simp
  have hn:(0:Int)≤pre.length:=by omega
  have hw:IntKind.i64.wrap ((pre.length:Int)+1)=((pre++[f]).length:Int):=by rw [List.length_append,wrapS (by omega) (by omega)]; simp
  have hfo:=hok f (by rw [he]; simp)
  have h1:=hfo.word; have h2:=hfo.s; have h3:=itoa_le hfo.n
  have h4:=fldN_le hfo
  have ih:=loop43 l hok hl (acall tab) rfl r (pre++[f]) (by simpa using he) (t++fldN f) (by simp; omega) fn base k
  have hfr:t++fldN f++fldsN r=t++fldsN (f::r):=by simp [fldsN]
  rw [hfr] at ih
  generalize t++fldsN (f::r)=u at ih ⊢
  have hi:=fun M=>k42 f.n hfo.n M
  simp only [List.length_append,List.length_cons,List.length_nil,Nat.zero_add] at ih hw
  rw [exK_loop]
  simp (disch:=omega) only [E43,hlt,hix,eFldC,hi,EVT,EVD,↓reduceIte,Nat.reduceEqDiff,reduceCtorEq,Nat.reduceAdd,Nat.reduceLeDiff,ne_eq,Nat.reduceLT,Int.reduceLT,Int.reduceLE,Int.reduceNeg]
  refine fork_split (fun hb=>?_) (fun hb=>?_)
  ·have he2:fldN f=32::(f.word++[61]++Lib.itoa f.n):=by rw [fldN,if_pos hb]
   rw [he2] at ih
   have hk:=k50 (p:=1) (k:=0) (M:=[.tick 1 t.length,bld 1 0 t,.cells (eFldC f)]) (32::(f.word++[61]++Lib.itoa f.n)) rfl rfl (by decide) (by simp; omega)
   simp only [eFldC,List.length_append,List.length_cons,List.length_nil,Nat.zero_add] at hk ih
   simp (config:={maxSteps:=1000000}) (disch:=omega) only [E43,hb,hi,eFldC,EVT,EVD,↓reduceIte,Nat.reduceEqDiff,reduceCtorEq,Nat.reduceAdd,Nat.reduceLeDiff,ne_eq,Nat.reduceLT,Int.reduceLT,Int.reduceLE,Int.reduceNeg]
   rw [hk]
   simp only [E43,hw,EVT,EVD,↓reduceIte,Nat.reduceEqDiff,reduceCtorEq,Nat.reduceAdd,Nat.reduceLeDiff,ne_eq,Nat.reduceLT,Int.reduceLT,Int.reduceLE,Int.reduceNeg]
   exact ih
  ·simp (disch:=omega) only [E43,hb,eFldC,EVT,EVD,↓reduceIte,Nat.reduceEqDiff,reduceCtorEq,Nat.reduceAdd,Nat.reduceLeDiff,ne_eq,Nat.reduceLT,Int.reduceLT,Int.reduceLE,Int.reduceNeg]
   refine fork_split (fun hc=>?_) (fun hc=>?_)
   ·have he2:fldN f=32::(f.word++[61]++f.s):=by rw [fldN,if_neg (by simp [hb]),if_pos (by simpa using hc)]
    rw [he2] at ih
    have hk:=k50 (p:=1) (k:=0) (M:=[.tick 1 t.length,bld 1 0 t,.cells (eFldC f)]) (32::(f.word++[61]++f.s)) rfl rfl (by decide) (by simp; omega)
    simp only [eFldC,List.length_append,List.length_cons,List.length_nil,Nat.zero_add] at hk ih
    simp (config:={maxSteps:=1000000}) (disch:=omega) only [E43,hb,hc,eFldC,EVT,EVD,↓reduceIte,Nat.reduceEqDiff,reduceCtorEq,Nat.reduceAdd,Nat.reduceLeDiff,ne_eq,Nat.reduceLT,Int.reduceLT,Int.reduceLE,Int.reduceNeg]
    rw [hk]
    simp only [E43,hw,EVT,EVD,↓reduceIte,Nat.reduceEqDiff,reduceCtorEq,Nat.reduceAdd,Nat.reduceLeDiff,ne_eq,Nat.reduceLT,Int.reduceLT,Int.reduceLE,Int.reduceNeg]
    exact ih
   ·have he2:fldN f=[]:=by rw [fldN,if_neg (by simp [hb]),if_neg (by simpa using hc)]
    rw [he2] at ih
    simp only [eFldC,List.append_nil,List.length_nil,Nat.add_zero] at ih
    simp (config:={maxSteps:=1000000}) (disch:=omega) only [E43,hb,hc,hw,eFldC,EVT,EVD,↓reduceIte,Nat.reduceEqDiff,reduceCtorEq,Nat.reduceAdd,Nat.reduceLeDiff,ne_eq,Nat.reduceLT,Int.reduceLT,Int.reduceLE,Int.reduceNeg]
    exact ih
theorem lineN_le {first:Bytes} {l:List Fld} (hf:first.length≤100000000) (hok:∀f,f∈l→FldOk f) (hl:l.length≤100):(lineN first l).length≤40000000000:=by
 have:=fldsN_le hok
 simp only [lineN,List.length_append]; omega
theorem c43 (first:Bytes) (hf:first.length≤100000000) (l:List Fld) (hok:∀f,f∈l→FldOk f) (hl:l.length≤100):acall tab 43 [.str first,.slice .sh (l.map eFld)] []=some (.str (lineN first l),[]):=by
 refine acall_ex rfl rfl rfl ?_
 have hk:=k50 (p:=1) (k:=0) (M:=[.tick 1 0,bld 1 0 []]) first rfl rfl (by decide) (by simp; omega)
 have h0:=loop43 l hok hl (acall tab) rfl l [] rfl first (by simp; omega)
 have hle:=lineN_le hf hok hl
 have hk2:=k51 (p:=1) (k:=0) (M:=[.tick 1 (lineN first l).length,bld 1 0 (lineN first l)]) rfl rfl (by decide) (by omega)
 simp only [List.length_nil,Nat.zero_add,List.nil_append] at hk h0
 simp only [fn43,E43,hk,EVT,EVD,↓reduceIte,Nat.reduceEqDiff,reduceCtorEq,Nat.reduceAdd,Nat.reduceLeDiff,ne_eq,Nat.reduceLT,Int.reduceLT,Int.reduceLE,Int.reduceNeg]
 refine (h0 _ _ _).trans ?_
 rw [show first++fldsN l=lineN first l from rfl]
 simp only [E43,hk2,EVT,EVD,↓reduceIte,Nat.reduceEqDiff,reduceCtorEq,Nat.reduceAdd,Nat.reduceLeDiff,ne_eq,Nat.reduceLT,Int.reduceLT,Int.reduceLE,Int.reduceNeg]
theorem k43 (first:Bytes) (hf:first.length≤100000000) (l:List Fld) (hok:∀f,f∈l→FldOk f) (hl:l.length≤100) (M:AMem):callOp (acall tab) 43 [.str first,.slice .sh (l.map eFld)] M=some (.str (lineN first l),M) :=
 callOp0 (c43 first hf l hok hl) rfl rfl rfl rfl rfl M
end Go.Proofs.YtannopdcbocngaaGreatDoor
namespace Go.Proofs.YtannopdcbocngaaGreatDoor
open Go Go.Abs
attribute [local irreducible] exK opsK opK gK forkK kr acall callOp owhen obind
structure Op where
 kind:Int
 client:Int
 path:Bytes
 dest:Bytes
 n:Int
 m:Int
 handle:Int
 data:Bytes
 deriving DecidableEq,Inhabited
def eOpC (t:Tk) (o:Op):List AVal:=[.int .i64 o.kind,.int .i64 o.client,.str o.path,.str o.dest,.int .i64 o.n,.int .i64 o.m,.int .i64 o.handle,.slice t (o.data.map u8V)]
abbrev eOp (t:Tk) (o:Op):AVal := .agg (eOpC t o)
structure OpOk (o:Op):Prop where
 kind:okI o.kind
 client:okI o.client
 path:o.path.length≤1000000
 dest:o.dest.length≤1000000
 n:okI o.n
 m:okI o.m
 handle:okI o.handle
 data:o.data.length≤1000000
def wClient:Bytes:=[99,108,105,101,110,116]
def wPath:Bytes:=[112,97,116,104]
def wTo:Bytes:=[116,111]
def wN:Bytes:=[110]
def wM:Bytes:=[109]
def wHandle:Bytes:=[104,97,110,100,108,101]
def wData:Bytes:=[100,97,116,97]
def opFlds (o:Op):List Fld:=[⟨wClient,o.client,[]⟩,⟨wPath,0,escN o.path⟩,⟨wTo,0,escN o.dest⟩,⟨wN,o.n,[]⟩,⟨wM,o.m,[]⟩,⟨wHandle,o.handle,[]⟩,⟨wData,0,escN o.data⟩]
def firstN (k:Int):Bytes:=if 0<k∧k<18 then wordsL.getD k.toNat [] else 111::112::Lib.itoa k
def opN (o:Op):Bytes:=lineN (firstN o.kind) (opFlds o)
theorem okI_zero:okI 0:=by unfold okI; omega
theorem opFlds_ok {o:Op} (h:OpOk o):∀f,f∈opFlds o→FldOk f:=by
 intro f hf
 have h1:=escN_le o.path; have h2:=escN_le o.dest; have h3:=escN_le o.data
 have h4:=h.path; have h5:=h.dest; have h6:=h.data
 simp only [opFlds,List.mem_cons,List.not_mem_nil,or_false] at hf
 rcases hf with rfl|rfl|rfl|rfl|rfl|rfl|rfl
 ·exact ⟨by simp [wClient],h.client,by simp⟩
 ·exact ⟨by simp [wPath],okI_zero,by simp; omega⟩
 ·exact ⟨by simp [wTo],okI_zero,by simp; omega⟩
 ·exact ⟨by simp [wN],h.n,by simp⟩
 ·exact ⟨by simp [wM],h.m,by simp⟩
 ·exact ⟨by simp [wHandle],h.handle,by simp⟩
 ·exact ⟨by simp [wData],okI_zero,by simp; omega⟩
theorem words_le:∀k,k<18→(wordsL.getD k []).length≤6:=by decide
theorem firstN_le {k:Int} (h:okI k):(firstN k).length≤23:=by
 unfold firstN
 split
 ·have:=words_le k.toNat (by omega); omega
 ·have:=itoa_le h
  simp; omega
theorem words_at {k:Nat} (h:k<18):gv0[k]?=some (.str (wordsL.getD k [])):=by
 have:k<wordsL.length:=h
 simp [gv0,this]
theorem bytes_u8:∀l:Bytes,bytesOf (l.map u8V)=some l
 | []=>rfl
 |b::l=>by
  have:=bytes_u8 l
  simp [bytesOf,u8V] at this ⊢
  simp [this]
theorem c15 (o:Op) (h:OpOk o) (t:Tk):acall tab 15 [eOp t o] []=some (.str (opN o),[]):=by
 refine acall_ex rfl rfl rfl ?_
 have i1:=fun M=>k42 o.kind h.kind M
 have s1:=fun M=>k44 o.path (by have:=h.path; omega) M
 have s2:=fun M=>k44 o.dest (by have:=h.dest; omega) M
 have s3:=fun M=>k44 o.data (by have:=h.data; omega) M
 have hb:=bytes_u8 o.data
 have hl:=fun M=>k43 (firstN o.kind) (by have:=firstN_le h.kind; omega) (opFlds o) (opFlds_ok h) (by simp [opFlds]) M
 have hi:=itoa_le h.kind
 simp (disch:=omega) only [fn15,E15,eOpC,i1,s1,s2,s3,hb,EVT,EVD,↓reduceIte,Nat.reduceEqDiff,reduceCtorEq,Nat.reduceAdd,Nat.reduceLeDiff,ne_eq,Nat.reduceLT,Int.reduceLT,Int.reduceLE,Int.reduceNeg]
 have hx:opN o=lineN (firstN o.kind) (opFlds o):=rfl
 generalize opN o=u at hx ⊢
 rw [←hx] at hl
 simp only [opFlds,List.map_cons,List.map_nil,eFld,eFldC,wClient,wPath,wTo,wN,wM,wHandle,wData] at hl
 refine guard_split (fun hb=>?_) (fun hb=>?_)
 ·simp only [hb,EVT,EVD,↓reduceIte,Nat.reduceEqDiff,reduceCtorEq,Nat.reduceAdd,Nat.reduceLeDiff,ne_eq,Nat.reduceLT,Int.reduceLT,Int.reduceLE,Int.reduceNeg]
  refine fork_split (fun hc=>?_) (fun hc=>?_)
  ·have e1:firstN o.kind=wordsL.getD o.kind.toNat []:=by rw [firstN,if_pos ⟨by simpa using hb,by simpa using hc⟩]
   have hn:((0:Int)≤o.kind)=True:=by simp at hb; simp; omega
   have hw:=words_at (k:=o.kind.toNat) (by simp at hb hc; omega)
   rw [←e1] at hw
   have hs:(o.kind<((18:Nat):Int)∧18*1≤gv0.length)=True:=by
    simp only [eq_iff_iff,iff_true]
    exact ⟨by simpa using hc,by decide⟩
   have hd:List.drop (o.kind.toNat*1) gv0 = .str (firstN o.kind)::List.drop (o.kind.toNat+1) gv0:=by
    rw [Nat.mul_one,List.drop_eq_getElem?_toList_append,hw]; rfl
   simp (config:={maxSteps:=1000000}) (disch:=omega) only [E15,hb,hc,hs,hn,hd,s1,s2,s3,bytes_u8,EVT,EVD,↓reduceIte,Nat.reduceEqDiff,reduceCtorEq,Nat.reduceAdd,Nat.reduceLeDiff,ne_eq,Nat.reduceLT,Int.reduceLT,Int.reduceLE,Int.reduceNeg]
   rw [hl]
   simp only [EVT,EVD,↓reduceIte,Nat.reduceEqDiff,reduceCtorEq,Nat.reduceAdd,Nat.reduceLeDiff,ne_eq,Nat.reduceLT,Int.reduceLT,Int.reduceLE,Int.reduceNeg]
  ·have e1:firstN o.kind=111::112::Lib.itoa o.kind:=by rw [firstN,if_neg (by simp at hc; omega)]
   rw [e1] at hl
   simp (config:={maxSteps:=1000000}) (disch:=omega) only [E15,hb,hc,s1,s2,s3,bytes_u8,EVT,EVD,↓reduceIte,Nat.reduceEqDiff,reduceCtorEq,Nat.reduceAdd,Nat.reduceLeDiff,ne_eq,Nat.reduceLT,Int.reduceLT,Int.reduceLE,Int.reduceNeg]
   rw [hl]
   simp only [EVT,EVD,↓reduceIte,Nat.reduceEqDiff,reduceCtorEq,Nat.reduceAdd,Nat.reduceLeDiff,ne_eq,Nat.reduceLT,Int.reduceLT,Int.reduceLE,Int.reduceNeg]
 ·have e1:firstN o.kind=111::112::Lib.itoa o.kind:=by rw [firstN,if_neg (by simp at hb; omega)]
  rw [e1] at hl
  simp (config:={maxSteps:=1000000}) (disch:=omega) only [E15,hb,s1,s2,s3,bytes_u8,EVT,EVD,↓reduceIte,Nat.reduceEqDiff,reduceCtorEq,Nat.reduceAdd,Nat.reduceLeDiff,ne_eq,Nat.reduceLT,Int.reduceLT,Int.reduceLE,Int.reduceNeg]
  rw [hl]
  simp only [EVT,EVD,↓reduceIte,Nat.reduceEqDiff,reduceCtorEq,Nat.reduceAdd,Nat.reduceLeDiff,ne_eq,Nat.reduceLT,Int.reduceLT,Int.reduceLE,Int.reduceNeg]
theorem k15 (o:Op) (h:OpOk o) (t:Tk) (ht:t = .sh∨t = .c0) (M:AMem):callOp (acall tab) 15 [eOp t o] M=some (.str (opN o),M):=by
 rcases ht with rfl|rfl
 ·exact callOp0 (c15 o h .sh) rfl rfl rfl rfl rfl M
 ·exact callOp0 (c15 o h .c0) rfl rfl rfl rfl rfl M
end Go.Proofs.YtannopdcbocngaaGreatDoor
namespace Go.Proofs.YtannopdcbocngaaGreatDoor
open Go Go.Abs
attribute [local irreducible] exK opsK opK gK forkK kr acall callOp owhen obind
structure Ans where
 err:Int
 ino:Int
 kind:Int
 n:Int
 m:Int
 names:List Bytes
 data:Bytes
 deriving DecidableEq,Inhabited
def eAnsC (t t':Tk) (a:Ans):List AVal:=[.int .i64 a.err,.int .i64 a.ino,.int .i64 a.kind,.int .i64 a.n,.int .i64 a.m,.slice t (a.names.map .str),.slice t' (a.data.map u8V)]
abbrev eAns (t t':Tk) (a:Ans):AVal := .agg (eAnsC t t' a)
def sumL (l:List Bytes):Nat:=(l.map List.length).sum
structure AnsOk (a:Ans):Prop where
 err:okI a.err
 ino:okI a.ino
 kind:okI a.kind
 n:okI a.n
 m:okI a.m
 names:a.names.length≤1000000
 sum:sumL a.names≤1000000
 data:a.data.length≤1000000
def wIno:Bytes:=[105,110,111]
def wKind:Bytes:=[107,105,110,100]
def wNames:Bytes:=[110,97,109,101,115]
def ansFlds (a:Ans):List Fld:=[⟨wIno,a.ino,[]⟩,⟨wKind,a.kind,[]⟩,⟨wN,a.n,[]⟩,⟨wM,a.m,[]⟩]
def errN (e:Int):Bytes:=if e≠0 then 101::114::114::111::114::Lib.itoa e else [111,107]
def namesN (l:List Bytes):Bytes:=if l≠[] then 32::(wNames++61::Lib.join (l.map escN) [44]) else []
def ansN (a:Ans):Bytes:=lineN (lineN (errN a.err) (ansFlds a)++namesN a.names) [⟨wData,0,escN a.data⟩]
theorem errN_le {k:Int} (h:okI k):(errN k).length≤26:=by
 have:=itoa_le h
 unfold errN
 split<;>simp
 omega
theorem ansFlds_ok {a:Ans} (h:AnsOk a):∀f,f∈ansFlds a→FldOk f:=by
 intro f hf
 simp only [ansFlds,List.mem_cons,List.not_mem_nil,or_false] at hf
 rcases hf with rfl|rfl|rfl|rfl
 ·exact ⟨by simp [wIno],h.ino,by simp⟩
 ·exact ⟨by simp [wKind],h.kind,by simp⟩
 ·exact ⟨by simp [wN],h.n,by simp⟩
 ·exact ⟨by simp [wM],h.m,by simp⟩
theorem fldN_le' {f:Fld} (h:okI f.n):(fldN f).length≤f.word.length+f.s.length+23:=by
 have:=itoa_le h
 unfold fldN
 split
 ·simp; omega
 ·split
  ·simp; omega
  ·simp
theorem ansHead_le {a:Ans} (h:AnsOk a):(lineN (errN a.err) (ansFlds a)).length≤127:=by
 have h0:=errN_le h.err
 have h1:=fldN_le' (f:=⟨wIno,a.ino,[]⟩) h.ino
 have h2:=fldN_le' (f:=⟨wKind,a.kind,[]⟩) h.kind
 have h3:=fldN_le' (f:=⟨wN,a.n,[]⟩) h.n
 have h4:=fldN_le' (f:=⟨wM,a.m,[]⟩) h.m
 simp only [wIno,wKind,wN,wM,List.length_cons,List.length_nil] at h1 h2 h3 h4
 simp only [lineN,ansFlds,fldsN,List.flatMap_cons,List.flatMap_nil,List.length_append,List.length_nil,wIno,wKind,wN,wM]
 omega
theorem joinTail_le (sep:Bytes) (hs:sep.length=1):∀l:List Bytes,(Lib.joinTail sep l).length=sumL l+l.length
 | []=>rfl
 |x::r=>by
  have:=joinTail_le sep hs r
  simp only [Lib.joinTail,List.map_cons,List.flatten_cons,List.length_append,sumL,List.sum_cons,List.length_cons] at this ⊢
  omega
theorem join_le (l:List Bytes):(Lib.join l [44]).length≤sumL l+l.length:=by
 cases l with
 |nil=>simp [Lib.join_nil]
 |cons x r =>
  rw [Lib.join_cons,List.length_append,joinTail_le _ rfl]
  simp only [sumL,List.map_cons,List.sum_cons,List.length_cons]
  omega
theorem sumL_esc:∀l:List Bytes,sumL (l.map escN)≤3*sumL l
 | []=>by simp [sumL]
 |x::r=>by
  have:=sumL_esc r
  have:=escN_le x
  simp only [sumL,List.map_cons,List.sum_cons] at *
  omega
theorem sumL_mem:∀ {l:List Bytes} {x:Bytes},x∈l→x.length≤sumL l
 |y::r,x,h=>by
  simp only [sumL,List.map_cons,List.sum_cons]
  rcases List.mem_cons.1 h with rfl|h
  ·omega
  ·have:=sumL_mem h
   simp only [sumL] at this
   omega
theorem namesN_le {a:Ans} (h:AnsOk a):(namesN a.names).length≤4000007:=by
 have:=join_le (a.names.map escN)
 have:=sumL_esc a.names
 have:=h.names; have:=h.sum
 unfold namesN
 split
 ·simp only [List.length_cons,List.length_append,List.length_map,wNames,List.length_nil] at *
  omega
 ·simp
theorem strs_of:∀l:List Bytes,strsOf (l.map .str)=some l
 | []=>rfl
 |x::r=>by
  simp only [List.map_cons,strsOf,strs_of r,obind_some]
theorem c48 (t:Tk) (l:List Bytes) (sep:Bytes) (h1:l.length≤140737488355328) (h2:(Lib.join l sep).length≤140737488355328) (M:AMem):acall tab 48 [.slice t (l.map .str),.str sep] M=some (.str (Lib.join l sep),M):=by
 refine acall_prim (g:=pJoin) rfl ?_
 simp only [pJoin,strs_of,obind_some]
 rw [if_pos ⟨h1,h2⟩]
theorem k48 (l:List Bytes) (sep:Bytes) (h1:l.length≤140737488355328) (h2:(Lib.join l sep).length≤140737488355328) (M:AMem) :
  callOp (acall tab) 48 [.slice .sh (l.map .str),.str sep] M=some (.str (Lib.join l sep),M):=callOp0 (c48 .sh l sep h1 h2 []) rfl rfl rfl rfl rfl M
end Go.Proofs.YtannopdcbocngaaGreatDoor
namespace Go.Proofs.YtannopdcbocngaaGreatDoor
open Go Go.Abs
attribute [local irreducible] exK opsK opK gK forkK kr acall callOp owhen obind
theorem roomO {a b:Nat} (h:a≤1000001) (hb:b≤10000):roomOk a b=True:=by
 simp only [eq_iff_iff,iff_true]
 unfold roomOk
 have:a*b≤1000001*10000:=Nat.mul_le_mul h hb
 omega
theorem widS:∀l:List Bytes,wid (l.map AVal.str) 1=True:=by
 intro l
 simp only [eq_iff_iff,iff_true]
 intro x hx
 obtain ⟨s,_,rfl⟩:=List.mem_map.1 hx
 rfl
theorem backV_t {t:Tk} (ht:t = .sh∨t = .c0) (B:Nat) (M:AMem) (xs:List AVal):AVal.backV B M (.slice t xs) = .slice t xs:=by rcases ht with rfl|rfl<;>rfl
theorem back1_t {t:Tk} (ht:t = .sh∨t = .c0) (B:Nat) (M:AMem) (xs:List AVal):AVal.back1 B M (.slice t xs) = .slice t xs:=by rcases ht with rfl|rfl<;>rfl
theorem loop17 (cs:List AVal) (hcs:∀B M,cs.map (AVal.back1 B M)=cs) (p:Bytes) (l:List Bytes) (hl:l.length≤1000000) (hs:sumL l≤1000000) (C:CallF) (hC:C=acall tab) (t:Tk) (ht:t = .sh∨t = .c0):∀(r pre:List Bytes),l=pre++r→∀(fn:List ARes) (base:Nat) (k:List K),
  exK C fn base (.block 0::k) (.loop [1,4,5,31,32,33] lb17_0) [(1,.ptr 0 0),(4,.str p),(5,.slice (.own 1) ((pre.map escN).map .str)),(31,.slice t (l.map .str)),(32,eI l.length),(33,eI pre.length)] [.cells cs,.tick 1 pre.length] =
  kr C fn base k ⟨.normal,[(1,.ptr 0 0),(4,.str p),(5,.slice (.own 1) ((l.map escN).map .str)),(31,.slice t (l.map .str)),(32,eI l.length),(33,eI l.length),(34,.bool false)],[.cells cs,.tick 1 l.length]⟩
 | [],pre,he,fn,base,k=>by
  subst hC
  have:pre=l:=by simpa using he.symm
  subst this
  rw [exK_loop]
  have hlt:decide ((pre.length:Int)<pre.length)=false:=by simp
  simp only [E17,hlt,EVT,EVD,↓reduceIte,Nat.reduceEqDiff,reduceCtorEq,Nat.reduceAdd,Nat.reduceLeDiff,ne_eq,Nat.reduceLT,Int.reduceLT,Int.reduceLE,Int.reduceNeg]
 |f::r,pre,he,fn,base,k=>by
  subst hC
  have hl':pre.length<l.length:=by rw [he]; simp
  have hlt:decide ((pre.length:Int)<l.length)=true:=by simpa using hl'
  have hix:l[pre.length]?=some f:=by rw [he]; simp
  have hn:(0:Int)≤pre.length:=by omega
  have hw:IntKind.i64.wrap ((pre.length:Int)+1)=((pre++[f]).length:Int):=by rw [List.length_append,wrapS (by omega) (by omega)]; simp
  have hm:f∈l:=by rw [he]; simp
  have hfl:=sumL_mem hm
  have hk:=fun M=>k44 f (by omega) M
  have hr:=roomO (a:=pre.length+1) (b:=16) (by omega) (by omega)
  have ih:=loop17 cs hcs p l hl hs (acall tab) rfl t ht r (pre++[f]) (by simpa using he) fn base k
  simp only [List.length_append,List.length_cons,List.length_nil,Nat.zero_add,List.map_append,List.map_cons,List.map_nil] at ih hw
  rw [exK_loop]
  simp (disch:=omega) only [E17,hlt,hix,hk,hr,EVT,EVD,↓reduceIte,Nat.reduceEqDiff,reduceCtorEq,Nat.reduceAdd,Nat.reduceLeDiff,ne_eq,Nat.reduceLT,Int.reduceLT,Int.reduceLE,Int.reduceNeg]
  simp only [E17,hw,widS,hcs,backV_t ht,EVT,EVD,↓reduceIte,Nat.reduceEqDiff,reduceCtorEq,Nat.reduceAdd,Nat.reduceLeDiff,ne_eq,Nat.reduceLT,Int.reduceLT,Int.reduceLE,Int.reduceNeg]
  exact ih
set_option maxHeartbeats 1000000 in
theorem c17 (a:Ans) (h:AnsOk a) (t t':Tk) (ht:t = .sh∨t = .c0) (ht':t' = .sh∨t' = .c0):acall tab 17 [eAns t t' a] []=some (.str (ansN a),[]):=by
 refine acall_ex rfl rfl rfl ?_
 have i1:=fun M=>k42 a.err h.err M
 have s3:=fun M=>k44 a.data (by have:=h.data; omega) M
 have hb:=bytes_u8 a.data
 have hi:=itoa_le h.err
 have hl:=fun M=>k43 (errN a.err) (by have:=errN_le h.err; omega) (ansFlds a) (ansFlds_ok h) (by simp [ansFlds]) M
 have hl':=fun M=>k43 (lineN (errN a.err) (ansFlds a)++namesN a.names) (by have:=ansHead_le h; have:=namesN_le h; simp; omega) [⟨wData,0,escN a.data⟩] (by
  intro f hf
  have:=escN_le a.data; have:=h.data
  simp only [List.mem_singleton] at hf; subst hf
  exact ⟨by simp [wData],okI_zero,by simp; omega⟩) (by simp) M
 have h0:=fun cs hcs p=>loop17 cs hcs p a.names h.names h.sum (acall tab) rfl t ht a.names [] rfl
 have hj:=k48 (a.names.map escN) [44] (by have:=h.names; simp; omega) (by have:=join_le (a.names.map escN); have:=sumL_esc a.names; have:=h.names; have:=h.sum; simp at *; omega)
 have hx:ansN a=lineN (lineN (errN a.err) (ansFlds a)++namesN a.names) [⟨wData,0,escN a.data⟩]:=rfl
 have hle:=ansHead_le h
 have hnm:=namesN_le h
 generalize ansN a=u at hx ⊢
 rw [←hx] at hl'
 generalize hv:lineN (errN a.err) (ansFlds a)=v at hl hl' hle
 simp only [ansFlds,List.map_cons,List.map_nil,eFld,eFldC,wIno,wKind,wN,wM,wData] at hl hl'
 simp (disch:=omega) only [fn17,E17,eAnsC,i1,s3,hb,EVT,EVD,↓reduceIte,Nat.reduceEqDiff,reduceCtorEq,Nat.reduceAdd,Nat.reduceLeDiff,ne_eq,Nat.reduceLT,Int.reduceLT,Int.reduceLE,Int.reduceNeg]
 have e0:errN a.err=if (a.err != 0)=true then 101::114::114::111::114::Lib.itoa a.err else [111,107]:=by
  unfold errN
  by_cases hc:a.err=0<;>simp [hc]
 have hcs:∀B M,(eAnsC t t' a).map (AVal.back1 B M)=eAnsC t t' a:=by
  intro B M
  simp only [eAnsC,List.map_cons,List.map_nil,back1_t ht,back1_t ht',EVT,EVD,↓reduceIte,Nat.reduceEqDiff,reduceCtorEq,Nat.reduceAdd,Nat.reduceLeDiff,ne_eq,Nat.reduceLT,Int.reduceLT,Int.reduceLE,Int.reduceNeg]
 unfold eAnsC at hcs
 refine fork_split (fun hc=>?_) (fun hc=>?_)
 all_goals
  rw [hc] at e0
  simp only [↓reduceIte,Bool.false_eq_true] at e0
  rw [e0] at hl
  simp (config:={maxSteps:=1000000}) (disch:=omega) only [E17,hc,i1,EVT,EVD,↓reduceIte,Nat.reduceEqDiff,reduceCtorEq,Nat.reduceAdd,Nat.reduceLeDiff,ne_eq,Nat.reduceLT,Int.reduceLT,Int.reduceLE,Int.reduceNeg]
  rw [hl]
  simp only [E17,EVT,EVD,↓reduceIte,Nat.reduceEqDiff,reduceCtorEq,Nat.reduceAdd,Nat.reduceLeDiff,ne_eq,Nat.reduceLT,Int.reduceLT,Int.reduceLE,Int.reduceNeg]
  refine (h0 _ hcs _ _ _ _).trans ?_
  simp only [E17,List.length_map,EVT,EVD,↓reduceIte,Nat.reduceEqDiff,reduceCtorEq,Nat.reduceAdd,Nat.reduceLeDiff,ne_eq,Nat.reduceLT,Int.reduceLT,Int.reduceLE,Int.reduceNeg]
  refine fork_split (fun hd=>?_) (fun hd=>?_)
  ·have e2:namesN a.names=32::110::97::109::101::115::61::Lib.join (a.names.map escN) [44]:=by
    rw [namesN,if_pos (by intro e; rw [e] at hd; simp at hd)]; rfl
   rw [e2] at hl' hnm
   simp only [List.length_cons] at hnm
   simp (disch:=omega) only [E17,hd,hj,s3,bytes_u8,EVT,EVD,↓reduceIte,Nat.reduceEqDiff,reduceCtorEq,Nat.reduceAdd,Nat.reduceLeDiff,ne_eq,Nat.reduceLT,Int.reduceLT,Int.reduceLE,Int.reduceNeg]
   rw [hl']
   simp only [E17,EVT,EVD,↓reduceIte,Nat.reduceEqDiff,reduceCtorEq,Nat.reduceAdd,Nat.reduceLeDiff,ne_eq,Nat.reduceLT,Int.reduceLT,Int.reduceLE,Int.reduceNeg]
  ·have e2:namesN a.names=[]:=by
    rw [namesN,if_neg]
    intro e
    have:=List.length_pos_iff.2 e
    simp at hd e; contradiction
   rw [e2,List.append_nil] at hl'
   simp only [E17,hd,hj,s3,bytes_u8,EVT,EVD,↓reduceIte,Nat.reduceEqDiff,reduceCtorEq,Nat.reduceAdd,Nat.reduceLeDiff,ne_eq,Nat.reduceLT,Int.reduceLT,Int.reduceLE,Int.reduceNeg]
   rw [hl']
   simp only [E17,EVT,EVD,↓reduceIte,Nat.reduceEqDiff,reduceCtorEq,Nat.reduceAdd,Nat.reduceLeDiff,ne_eq,Nat.reduceLT,Int.reduceLT,Int.reduceLE,Int.reduceNeg]
theorem k17 (a:Ans) (h:AnsOk a) (t t':Tk) (ht:t = .sh∨t = .c0) (ht':t' = .sh∨t' = .c0) (M:AMem):callOp (acall tab) 17 [eAns t t' a] M=some (.str (ansN a),M):=by
 have:=c17 a h t t' ht ht'
 rcases ht with rfl|rfl<;>rcases ht' with rfl|rfl<;>exact callOp0 this rfl rfl rfl rfl rfl M
end Go.Proofs.YtannopdcbocngaaGreatDoor
