import Derived.Test.YtannopdcbocngaaGreatDoorProg
import Derived.Shelf.RegionOpenPlain
import Derived.WalkKit
import Derived.Deep.LoopGhost
import Derived.Lib.Walk
import Derived.Lib.SliceRun
import Derived.Lib.AppendZeros
import Derived.Below
import Derived.KernelRfl
import Derived.Lib.Strings
import Derived.Lib.Slices
import Derived.Lib.Bytealg
import Derived.Lib.Builder
import Derived.Lib.AppendStr
import Derived.Lib.UnsafeStr
import Derived.Laws.Externs
import Derived.Lib.ItoaLen
import Derived.Lib.AtoiAllCases
import Derived.RangeFuncNested
import Derived.Test.YtannopdcbocngaaGreatDoorRows
import Derived.Lib.LaidU8
import Derived.Shelf.Vars
import Derived.LaidLaws
import Derived.Test.YtannopdcbocngaaGreatDoorCards
import Derived.Lib.LaidIn
import Derived.Deep.DeepHandedRow
import Derived.Deep.DeepWitnessRowRef
import Derived.ProofKit
import Derived.SizedLaws
import Derived.Carry
import Derived.OpenShut
import Derived.Deep.Slices
import Derived.Deep.Fields
import Derived.ChangeOld
import Derived.Test.YtannopdcbocngaaGreatDoorLtC
set_option linter.unusedSimpArgs false
set_option linter.unusedVariables false
set_option linter.unusedSectionVars false
namespace Go.Proofs.YtannopdcbocngaaGreatDoor
open Go Go.RowKit Go.Lib
set_option maxHeartbeats 2000000 in
set_option maxRecDepth 100000 in
theorem clone110 (b off n c:Nat) (news:List Value) (w:World) (hl:news.length=n*3) (hn:n≤maxLen) (hbig:n*32≤140737488355328)
  (hc:∀j u,news[j]?=some u→w.cell? ⟨b,off+j,none⟩=some u) (h1:∀u∈news,u.oneCell'=true) :
  Calls Tryz.prog 110 #[.slice (some ⟨b,off,none⟩) n c] w fun e w'=>∃v',e = .returned v'∧w'.ownsRow w.heap.size 144 3 v' n news∧v' ≠ .slice none 0 0∧Below w.heap.size w w':=by
 have mixed:Tryz.prog.follows .mixedOrders=true:=by kernel_rfl
 have t22:=Tryz.underlying62
 obtain ⟨i0,hi,hz1,hz0,hz2⟩:∃i0,Tryz.prog.info? 144=some i0∧i0.size=3∧i0.zero=some (.agg #[.string ⟨#[]⟩,.int .i64 0,.int .i64 0])∧i0.bytes=32:=by
  have h0:(Tryz.prog.info? 144).map (fun i=>(i.size,i.zero,i.bytes))=some (3,some (.agg #[.string ⟨#[]⟩,.int .i64 0,.int .i64 0]),32):=by kernel_rfl
  obtain ⟨i0,h1,h2⟩:=Option.map_eq_some_iff.1 h0
  injection h2 with h2 h3
  injection h3 with h3 h4
  exact ⟨i0,h1,h2,h3,h4⟩
 have q22:∀(w:World) (a:Option Addr) (n c n' c':Nat),(binOp .eql 62 (.slice a n c) (.slice none n' c')).run Tryz.prog w = .ok (.bool a.isNone) w:=fun w a n c n' c'=>Lib.run_eql_slice_nil w _ _ a n c n' c' t22
 have u22:∀w,Sem.run Tryz.prog (underlying 62) w = .ok (TypeDesc.slice 144) w:=run_underlying t22
 have A:Aside (∀j u,news[j]?=some u→w.cell? ⟨b,off+j,none⟩=some u):=hc
 clear hc
 go_enter Tryz.func110,Tryz.ntmps110
 go_wp2_with (at_builtin; refine wpList_append_own _ rfl _ _ 62 rfl w.heap.size 144 i0 (.agg #[.string ⟨#[]⟩,.int .i64 0,.int .i64 0]) 3 32 t22 hi hz0 hz1 hz2 rfl (by omega) _ _ _ rfl (World.ownsRow_made w #[] 0 (Nat.le_refl _) (Nat.zero_le _) (by simp)) ⟨b,off,none⟩ n c news rfl ?qc1 ?qc2 ?qc3 ?qc4 ?qc5 ?qc6 ?_)
 case qc1=>exact hl
 case qc2 =>
  intro j u hj
  rw [Addr.add_lit]
  exact Lib.cell?_alloc_some _ (A.out j u hj)
 case qc3=>exact h1
 case qc4=>rw [Nat.zero_add]; exact hn
 case qc5=>rw [Nat.zero_add]; exact hbig
 case qc6=>simp
 intro v' w1 hown hgrow hnil
 go_wp2
 go_ret
 refine ⟨v',rfl,by simpa using hown,?_,?_⟩
 ·exact hnil
 ·exact ((Below.refl _ w).alloc (Nat.le_refl _) _).grown hgrow (by simp) (by intro k hk; simp [Value.ownBlock] at hk; omega)
set_option maxHeartbeats 2000000 in
set_option maxRecDepth 100000 in
theorem clone110_none (A:Option Addr) (c:Nat) (w:World) :
  Calls Tryz.prog 110 #[.slice A 0 c] w fun e w'=>(∃B,e = .returned (.slice B 0 0))∧Below w.heap.size w w':=by
 have mixed:Tryz.prog.follows .mixedOrders=true:=by kernel_rfl
 have t22:=Tryz.underlying62
 have q22:∀(w:World) (a:Option Addr) (n c n' c':Nat),(binOp .eql 62 (.slice a n c) (.slice none n' c')).run Tryz.prog w = .ok (.bool a.isNone) w:=fun w a n c n' c'=>Lib.run_eql_slice_nil w _ _ a n c n' c' t22
 have u22:∀w,Sem.run Tryz.prog (underlying 62) w = .ok (TypeDesc.slice 144) w:=run_underlying t22
 cases A with
 |none =>
  go_enter Tryz.func110,Tryz.ntmps110
  go_wp2
  go_ret
  exact ⟨⟨_,rfl⟩,Below.refl _ _⟩
 |some a =>
  have hrun:∀ty,(Builtin.append_ #[62,62] ty #[.slice (some ⟨w.heap.size,0,none⟩) 0 0,.slice (some a) 0 c]).run Tryz.prog (w.alloc (.cells #[] 144)) = .ok (.slice (some ⟨w.heap.size,0,none⟩) 0 0) (w.alloc (.cells #[] 144)):=fun ty=>by
   have hs:=Tryz.sizeOf144
   simp [Builtin.append_,run_underlying t22,hs,Builtin.lenOf,Builtin.firstCells,loadCells,loadCellsFrom,storeCells]
  go_enter Tryz.func110,Tryz.ntmps110
  go_wp2_with (at_builtin; refine Lib.wpList_append_run _ rfl _ _ _ _ rfl _ _ rfl rfl _ _ (hrun _) ?_)
  go_ret
  exact ⟨⟨_,rfl⟩,(Below.refl _ w).alloc (Nat.le_refl _) _⟩
set_option maxHeartbeats 2000000 in
set_option maxRecDepth 100000 in
theorem clone107 (b off n c:Nat) (news:List Value) (w:World) (hl:news.length=n*6) (hn:n≤maxLen) (hbig:n*80≤140737488355328)
  (hc:∀j u,news[j]?=some u→w.cell? ⟨b,off+j,none⟩=some u) (h1:∀u∈news,u.oneCell'=true) :
  Calls Tryz.prog 107 #[.slice (some ⟨b,off,none⟩) n c] w fun e w'=>∃v',e = .returned v'∧w'.ownsRow w.heap.size 64 6 v' n news∧v' ≠ .slice none 0 0∧Below w.heap.size w w':=by
 have mixed:Tryz.prog.follows .mixedOrders=true:=by kernel_rfl
 have t22:=Tryz.underlying35
 obtain ⟨i0,hi,hz1,hz0,hz2⟩:∃i0,Tryz.prog.info? 64=some i0∧i0.size=6∧i0.zero=some (.agg #[.int .i64 0,.int .i64 0,.int .i64 0,.slice none 0 0,.slice none 0 0,.int .i64 0])∧i0.bytes=80:=by
  have h0:(Tryz.prog.info? 64).map (fun i=>(i.size,i.zero,i.bytes))=some (6,some (.agg #[.int .i64 0,.int .i64 0,.int .i64 0,.slice none 0 0,.slice none 0 0,.int .i64 0]),80):=by kernel_rfl
  obtain ⟨i0,h1,h2⟩:=Option.map_eq_some_iff.1 h0
  injection h2 with h2 h3
  injection h3 with h3 h4
  exact ⟨i0,h1,h2,h3,h4⟩
 have q22:∀(w:World) (a:Option Addr) (n c n' c':Nat),(binOp .eql 35 (.slice a n c) (.slice none n' c')).run Tryz.prog w = .ok (.bool a.isNone) w:=fun w a n c n' c'=>Lib.run_eql_slice_nil w _ _ a n c n' c' t22
 have u22:∀w,Sem.run Tryz.prog (underlying 35) w = .ok (TypeDesc.slice 64) w:=run_underlying t22
 have A:Aside (∀j u,news[j]?=some u→w.cell? ⟨b,off+j,none⟩=some u):=hc
 clear hc
 go_enter Tryz.func107,Tryz.ntmps107
 go_wp2_with (at_builtin; refine wpList_append_own _ rfl _ _ 35 rfl w.heap.size 64 i0 (.agg #[.int .i64 0,.int .i64 0,.int .i64 0,.slice none 0 0,.slice none 0 0,.int .i64 0]) 6 80 t22 hi hz0 hz1 hz2 rfl (by omega) _ _ _ rfl (World.ownsRow_made w #[] 0 (Nat.le_refl _) (Nat.zero_le _) (by simp)) ⟨b,off,none⟩ n c news rfl ?qc1 ?qc2 ?qc3 ?qc4 ?qc5 ?qc6 ?_)
 case qc1=>exact hl
 case qc2 =>
  intro j u hj
  rw [Addr.add_lit]
  exact Lib.cell?_alloc_some _ (A.out j u hj)
 case qc3=>exact h1
 case qc4=>rw [Nat.zero_add]; exact hn
 case qc5=>rw [Nat.zero_add]; exact hbig
 case qc6=>simp
 intro v' w1 hown hgrow hnil
 go_wp2
 go_ret
 refine ⟨v',rfl,by simpa using hown,?_,?_⟩
 ·exact hnil
 ·exact ((Below.refl _ w).alloc (Nat.le_refl _) _).grown hgrow (by simp) (by intro k hk; simp [Value.ownBlock] at hk; omega)
set_option maxHeartbeats 2000000 in
set_option maxRecDepth 100000 in
theorem clone107_none (A:Option Addr) (c:Nat) (w:World) :
  Calls Tryz.prog 107 #[.slice A 0 c] w fun e w'=>(∃B,e = .returned (.slice B 0 0))∧Below w.heap.size w w':=by
 have mixed:Tryz.prog.follows .mixedOrders=true:=by kernel_rfl
 have t22:=Tryz.underlying35
 have q22:∀(w:World) (a:Option Addr) (n c n' c':Nat),(binOp .eql 35 (.slice a n c) (.slice none n' c')).run Tryz.prog w = .ok (.bool a.isNone) w:=fun w a n c n' c'=>Lib.run_eql_slice_nil w _ _ a n c n' c' t22
 have u22:∀w,Sem.run Tryz.prog (underlying 35) w = .ok (TypeDesc.slice 64) w:=run_underlying t22
 cases A with
 |none =>
  go_enter Tryz.func107,Tryz.ntmps107
  go_wp2
  go_ret
  exact ⟨⟨_,rfl⟩,Below.refl _ _⟩
 |some a =>
  have hrun:∀ty,(Builtin.append_ #[35,35] ty #[.slice (some ⟨w.heap.size,0,none⟩) 0 0,.slice (some a) 0 c]).run Tryz.prog (w.alloc (.cells #[] 64)) = .ok (.slice (some ⟨w.heap.size,0,none⟩) 0 0) (w.alloc (.cells #[] 64)):=fun ty=>by
   have hs:=Tryz.sizeOf64
   simp [Builtin.append_,run_underlying t22,hs,Builtin.lenOf,Builtin.firstCells,loadCells,loadCellsFrom,storeCells]
  go_enter Tryz.func107,Tryz.ntmps107
  go_wp2_with (at_builtin; refine Lib.wpList_append_run _ rfl _ _ _ _ rfl _ _ rfl rfl _ _ (hrun _) ?_)
  go_ret
  exact ⟨⟨_,rfl⟩,(Below.refl _ w).alloc (Nat.le_refl _) _⟩
end Go.Proofs.YtannopdcbocngaaGreatDoor
namespace Go.Proofs.YtannopdcbocngaaGreatDoor
open Go Go.Abs Go.RowKit
theorem clones110 {args:List AVal} {M:AMem} {x:AVal×AMem} (h:pClone 3 32 args M=some x):SoundCall Tryz.prog 110 args M x :=
 clone_sound (by omega) (by omega) (fun b off n c news w=>clone110 b off n c news w) (fun A c w=>clone110_none A c w) h
theorem clones107 {args:List AVal} {M:AMem} {x:AVal×AMem} (h:pClone 6 80 args M=some x):SoundCall Tryz.prog 107 args M x :=
 clone_sound (by omega) (by omega) (fun b off n c news w=>clone107 b off n c news w) (fun A c w=>clone107_none A c w) h
theorem ins108_all (b n c i vb voff vc:Nat) (cs vs:List Value) (w:World) (row:Array Value) (t:TypeId) (hi:i≤n) (hnc:n≤c) (hbig:(n+1)*80≤140737488355328) (h63:n+1≤9223372036854775807) (hvb:vb≠b)
  (hcl:cs.length=n*6) (hvl:vs.length=6) (hw:w.heap[b]?=some (.cells row t (0,0))) (hrow:c*6≤row.size) (hat:∀(p:Nat) (v:Value),cs[p]?=some v→row[p]?=some v)
  (hvs:∀(p:Nat) (v:Value),vs[p]?=some v→w.cell? ⟨vb,voff+p,none⟩=some v) (h1c:∀v∈cs,v.oneCell'=true) (h1v:∀v∈vs,v.oneCell'=true) :
  Calls Tryz.prog 108 #[.slice (some ⟨b,0,none⟩) n c,.int .i64 i,.slice (some ⟨vb,voff,none⟩) 1 vc] w (InsPost 6 w b row t n i cs vs):=by
 have hcs:∀(p:Nat) (v:Value),cs[p]?=some v→w.cell? ⟨b,p,none⟩=some v:=fun p v hp=>by simp [World.cell?,hw,hat p v hp]
 by_cases hroom:n+1≤c
 ·by_cases hin:i<n
  ·refine (ins108_shift b n c i vb voff vc cs vs w hin hroom h63 hvb hcl hvl row t hw hrow hcs hvs h1c h1v).mono ?_
   rintro e w' ⟨he,hw'⟩
   exact ins_shift hin hroom hcl hvl hw hrow hat he hw'
  ·obtain rfl:i=n:=by omega
   refine (ins108_end_room b i c vb voff vc vs w hroom h63 hvl row t hw hrow hvs h1v).mono ?_
   rintro e w' ⟨he,hw'⟩
   exact ins_room hroom hcl hvl hw hrow hat he hw'
 ·have hG:=grownCap_ge w (n+1) c 64
  by_cases hin:i<n
  ·refine (ins108_grow b n c i vb voff vc cs vs w hin hnc (by omega) hbig hcl hvl hcs hvs h1c h1v).mono ?_
   rintro e w' ⟨he,hw'⟩
   exact ins_grow (z := .agg #[.int .i64 0,.int .i64 0,.int .i64 0,.slice none 0 0,.slice none 0 0,.int .i64 0]) (by omega) rfl hin hcl hvl hG he hw'
  ·obtain rfl:i=n:=by omega
   refine (ins108_end_grow (some ⟨b,0,none⟩) i c vb voff vc cs vs w hnc (by omega) hbig hcl hvl (by simp) (fun a ha p v hp=>by injection ha with ha; subst ha; rw [Addr.add_lit,Nat.zero_add]; exact hcs p v hp) hvs h1v).mono ?_
   rintro e w' ⟨he,hw'⟩
   exact ins_end_grow (z := .agg #[.int .i64 0,.int .i64 0,.int .i64 0,.slice none 0 0,.slice none 0 0,.int .i64 0]) (by omega) rfl hcl hvl hG he hw'
theorem ins108_nil (A:Option Addr) (vb voff vc:Nat) (vs:List Value) (w:World) (row:Array Value) (hvl:vs.length=6)
  (hvs:∀(p:Nat) (v:Value),vs[p]?=some v→w.cell? ⟨vb,voff+p,none⟩=some v) (h1v:∀v∈vs,v.oneCell'=true) :
  Calls Tryz.prog 108 #[.slice A 0 0,.int .i64 0,.slice (some ⟨vb,voff,none⟩) 1 vc] w (InsPost 6 w w.heap.size row 0 0 0 [] vs):=by
 refine (ins108_end_grow A 0 0 vb voff vc [] vs w (Nat.le_refl _) (by omega) (by omega) rfl hvl (fun _=>rfl) (fun a ha p v hp=>by simp at hp) hvs h1v).mono ?_
 rintro e w' ⟨he,hw'⟩
 exact ins_end_grow (z := .agg #[.int .i64 0,.int .i64 0,.int .i64 0,.slice none 0 0,.slice none 0 0,.int .i64 0]) (by omega) rfl rfl hvl (grownCap_ge w 1 0 64) he hw'
theorem insert108 {args:List AVal} {M:AMem} {x:AVal×AMem} (h:pInsert 6 80 args M=some x):SoundCall Tryz.prog 108 args M x :=
 insert_sound (by omega) (by omega) (fun b n c i vb voff vc cs vs w row t=>ins108_all b n c i vb voff vc cs vs w row t) (fun A vb voff vc vs w row=>ins108_nil A vb voff vc vs w row) h
theorem ins109_all (b n c i vb voff vc:Nat) (cs vs:List Value) (w:World) (row:Array Value) (t:TypeId) (hi:i≤n) (hnc:n≤c) (hbig:(n+1)*32≤140737488355328) (h63:n+1≤9223372036854775807) (hvb:vb≠b)
  (hcl:cs.length=n*3) (hvl:vs.length=3) (hw:w.heap[b]?=some (.cells row t (0,0))) (hrow:c*3≤row.size) (hat:∀(p:Nat) (v:Value),cs[p]?=some v→row[p]?=some v)
  (hvs:∀(p:Nat) (v:Value),vs[p]?=some v→w.cell? ⟨vb,voff+p,none⟩=some v) (h1c:∀v∈cs,v.oneCell'=true) (h1v:∀v∈vs,v.oneCell'=true) :
  Calls Tryz.prog 109 #[.slice (some ⟨b,0,none⟩) n c,.int .i64 i,.slice (some ⟨vb,voff,none⟩) 1 vc] w (InsPost 3 w b row t n i cs vs):=by
 have hcs:∀(p:Nat) (v:Value),cs[p]?=some v→w.cell? ⟨b,p,none⟩=some v:=fun p v hp=>by simp [World.cell?,hw,hat p v hp]
 by_cases hroom:n+1≤c
 ·by_cases hin:i<n
  ·refine (ins109_shift b n c i vb voff vc cs vs w hin hroom h63 hvb hcl hvl row t hw hrow hcs hvs h1c h1v).mono ?_
   rintro e w' ⟨he,hw'⟩
   exact ins_shift hin hroom hcl hvl hw hrow hat he hw'
  ·obtain rfl:i=n:=by omega
   refine (ins109_end_room b i c vb voff vc vs w hroom h63 hvl row t hw hrow hvs h1v).mono ?_
   rintro e w' ⟨he,hw'⟩
   exact ins_room hroom hcl hvl hw hrow hat he hw'
 ·have hG:=grownCap_ge w (n+1) c 144
  by_cases hin:i<n
  ·refine (ins109_grow b n c i vb voff vc cs vs w hin hnc (by omega) hbig hcl hvl hcs hvs h1c h1v).mono ?_
   rintro e w' ⟨he,hw'⟩
   exact ins_grow (z := .agg #[.string ⟨#[]⟩,.int .i64 0,.int .i64 0]) (by omega) rfl hin hcl hvl hG he hw'
  ·obtain rfl:i=n:=by omega
   refine (ins109_end_grow (some ⟨b,0,none⟩) i c vb voff vc cs vs w hnc (by omega) hbig hcl hvl (by simp) (fun a ha p v hp=>by injection ha with ha; subst ha; rw [Addr.add_lit,Nat.zero_add]; exact hcs p v hp) hvs h1v).mono ?_
   rintro e w' ⟨he,hw'⟩
   exact ins_end_grow (z := .agg #[.string ⟨#[]⟩,.int .i64 0,.int .i64 0]) (by omega) rfl hcl hvl hG he hw'
theorem ins109_nil (A:Option Addr) (vb voff vc:Nat) (vs:List Value) (w:World) (row:Array Value) (hvl:vs.length=3)
  (hvs:∀(p:Nat) (v:Value),vs[p]?=some v→w.cell? ⟨vb,voff+p,none⟩=some v) (h1v:∀v∈vs,v.oneCell'=true) :
  Calls Tryz.prog 109 #[.slice A 0 0,.int .i64 0,.slice (some ⟨vb,voff,none⟩) 1 vc] w (InsPost 3 w w.heap.size row 0 0 0 [] vs):=by
 refine (ins109_end_grow A 0 0 vb voff vc [] vs w (Nat.le_refl _) (by omega) (by omega) rfl hvl (fun _=>rfl) (fun a ha p v hp=>by simp at hp) hvs h1v).mono ?_
 rintro e w' ⟨he,hw'⟩
 exact ins_end_grow (z := .agg #[.string ⟨#[]⟩,.int .i64 0,.int .i64 0]) (by omega) rfl rfl hvl (grownCap_ge w 1 0 144) he hw'
theorem insert109 {args:List AVal} {M:AMem} {x:AVal×AMem} (h:pInsert 3 32 args M=some x):SoundCall Tryz.prog 109 args M x :=
 insert_sound (by omega) (by omega) (fun b n c i vb voff vc cs vs w row t=>ins109_all b n c i vb voff vc cs vs w row t) (fun A vb voff vc vs w row=>ins109_nil A vb voff vc vs w row) h
end Go.Proofs.YtannopdcbocngaaGreatDoor
namespace Go.Proofs.YtannopdcbocngaaGreatDoor
open Go Go.Abs Go.RowKit
set_option maxHeartbeats 1000000 in
set_option maxRecDepth 100000 in
theorem compare171 (a b:ByteArray) (w:World) :
  Calls Tryz.prog 171 #[.string a,.string b] w fun e w'=>e = .returned (.int .i64 (Lib.compareBytes a.data.toList b.data.toList))∧w'=w:=by
 go_enter Tryz.func171,Tryz.ntmps171
 go_wp2
 rw [run_callFunc_extern Tryz.func185 (by kernel_rfl) (by kernel_rfl) (by kernel_rfl) (e:=Extern.BytealgCompare.compare) (by kernel_rfl),Lib.run_compareString]
 simp only [Result.andThen]
 rw [Oper.upon_value]
 go_wp2
 go_ret
 exact ⟨rfl,rfl⟩
noncomputable def pCompare:List AVal→AMem→Option (AVal×AMem)
 | [.str a,.str b],M=>some (.int .i64 (Lib.compareBytes a b),M)
 |_,_=>none
theorem compares171 {args:List AVal} {M:AMem} {x:AVal×AMem} (h:pCompare args M=some x):SoundCall Tryz.prog 171 args M x:=by
 unfold pCompare at h
 split at h
 ·rename_i a b
  injection h with h; subst h
  intro j w vs hr hG hl hv
  obtain ⟨l⟩:=vs
  match l,hl with
  | [u1,u2],_ =>
   have h1:=(hv 0 _ u1 rfl rfl).str_inv
   have h2:=(hv 1 _ u2 rfl rfl).str_inv
   subst h1; subst h2
   refine (compare171 (bs a) (bs b) w).mono ?_
   rintro e w' ⟨rfl,rfl⟩
   exact ⟨_,j,rfl,hr,.refl _ _ _,.plain (.int _ _)⟩
 ·cases h
end Go.Proofs.YtannopdcbocngaaGreatDoor
namespace Go.Proofs.YtannopdcbocngaaGreatDoor
open Go Go.Abs Go.RowKit
theorem infoB:∃jj,Tryz.prog.info? 87=some jj∧jj.size≠0:=by
 have h0:(Tryz.prog.info? 87).map (fun i=>i.size)=some 2:=by kernel_rfl
 obtain ⟨i0,h1,h2⟩:=Option.map_eq_some_iff.1 h0
 exact ⟨i0,h1,by omega⟩
set_option maxHeartbeats 1000000 in
set_option maxRecDepth 100000 in
theorem check_used (b:Nat) (w:World) (h0:w.cell? ⟨b,0,none⟩=some (.pointer (some ⟨b,0,none⟩))) :
  Calls Tryz.prog 91 #[.pointer (some ⟨b,0,none⟩)] w fun e w'=>e = .returned (.tuple #[])∧w'=w:=by
 obtain ⟨jj,hj,_⟩:=infoB
 go_enter Tryz.func91,Tryz.ntmps91
 go_wp2
 rw [Lib.run_neq_ptr_same w _ Tryz.underlying85 hj]
 go_wp2
 go_end0
 exact ⟨rfl,rfl⟩
set_option maxHeartbeats 1000000 in
set_option maxRecDepth 100000 in
theorem check_fresh (b t n:Nat) (w:World) (h0:w.cell? ⟨b,0,none⟩=some (.pointer none)) (hsh:w.shape? b=some (t,n)) (hn:0<n) (hfz:w.frozen? ⟨b,0,none⟩=false)
  (hlies:liesAt Tryz.prog Tryz.prog.depth t (n / Tryz.prog.cellsOf t) 0 87 1=true) :
  Calls Tryz.prog 91 #[.pointer (some ⟨b,0,none⟩)] w fun e w'=>e = .returned (.tuple #[])∧w'=w.setCell ⟨b,0,none⟩ (.pointer (some ⟨b,0,none⟩)):=by
 obtain ⟨jj,hj,hjs⟩:=infoB
 go_enter Tryz.func91,Tryz.ntmps91
 go_wp2
 rw [Lib.run_to_unsafe w ⟨b,0,none⟩ Tryz.underlying85 Tryz.underlying177 hj hjs hsh hn]
 simp only [Result.andThen]
 rw [Oper.upon_value]
 go_wp2
 rw [run_callFunc_extern Tryz.func128 (by kernel_rfl) (by kernel_rfl) (by kernel_rfl) (e:=Extern.AbiNoEscape.same) (by kernel_rfl)]
 rw [Lib.run_noEscape]
 simp only [Result.andThen]
 rw [Oper.upon_value]
 go_wp2
 rw [Lib.run_from_unsafe w ⟨b,0,none⟩ Tryz.underlying177 Tryz.underlying85 hj hsh hlies]
 simp only [Result.andThen]
 rw [Oper.upon_value]
 go_wp2
 go_end0
 exact ⟨rfl,rfl⟩
set_option maxHeartbeats 2000000 in
set_option maxRecDepth 100000 in
theorem string_some (b g cap:Nat) (cur:Array Value) (l:List UInt8) (w:World) (hb1:w.cell? ⟨b,1,none⟩=some (.slice (some ⟨g,0,none⟩) l.length cap)) (hg:w.heap[g]?=some (.cells cur 5 (0,0)))
  (hnc:l.length≤cap) (hcs:cap≤cur.size) (h0:l≠[]) (h63:l.length≤9223372036854775807) (hcell:∀(j:Nat) (x:UInt8),l[j]?=some x→w.cell? ⟨g,j,none⟩=some (.int .u8 x.toNat)) :
  Calls Tryz.prog 51 #[.pointer (some ⟨b,0,none⟩)] w fun e w'=>e = .returned (.string ⟨l.toArray⟩)∧w'=w.drew.freeze ⟨g,0,none⟩ l.length:=by
 have mixed:Tryz.prog.follows .mixedOrders=true:=by kernel_rfl
 have hl0:l.length≠0:=by simpa using h0
 have c1:w.drew.cell? ⟨b,1,none⟩=some (.slice (some ⟨g,0,none⟩) l.length cap):=hb1
 have hSD:(Builtin.unsafeSliceData_ #[22] 142 #[.slice (some ⟨g,0,none⟩) l.length cap]).run Tryz.prog w.drew = .ok (.pointer (some ⟨g,0,none⟩)) w.drew :=
  Lib.run_unsafeSliceData_row _ _ _ _ _ _ (by omega)
 have hUS:(Builtin.unsafeString_ #[142,3] 9 #[.pointer (some ⟨g,0,none⟩),.int .i64 l.length]).run Tryz.prog w.drew = .ok (.string ⟨l.toArray⟩) (w.drew.freeze ⟨g,0,none⟩ l.length):=by
  refine Lib.run_unsafeString_row w.drew 142 3 9 5 Tryz.underlying142 (by kernel_rfl) g cur.size (by have hg':w.drew.heap[g]?=some (.cells cur 5 (0,0)):=hg; simp [World.shape?,hg']) l h0 (by omega) h63 ?_
  intro j x hx
  rw [addr_add,Nat.zero_add]
  exact hcell j x hx
 clear hcell hb1 hg
 go_enter Tryz.func51,Tryz.ntmps51
 go_wp2
 go_region
 all_goals (go_wp2; go_ret; exact ⟨rfl,rfl⟩)
set_option maxHeartbeats 2000000 in
set_option maxRecDepth 100000 in
theorem string_none (b:Nat) (w:World) (hb1:w.cell? ⟨b,1,none⟩=some (.slice none 0 0)) :
  Calls Tryz.prog 51 #[.pointer (some ⟨b,0,none⟩)] w fun e w'=>e = .returned (.string ⟨#[]⟩)∧w'=w.drew:=by
 have mixed:Tryz.prog.follows .mixedOrders=true:=by kernel_rfl
 have c1:w.drew.cell? ⟨b,1,none⟩=some (.slice none 0 0):=hb1
 have hSD:(Builtin.unsafeSliceData_ #[22] 142 #[.slice none 0 0]).run Tryz.prog w.drew = .ok (.pointer none) w.drew:=rfl
 have hUS:∀(W:World) (q:Option Addr),(Builtin.unsafeString_ #[142,3] 9 #[.pointer q,.int .i64 0]).run Tryz.prog W = .ok (.string .empty) W:=fun W q=>Lib.run_unsafeString_none W _ _ _ q
 clear hb1
 go_enter Tryz.func51,Tryz.ntmps51
 go_wp2
 go_region
 all_goals (go_wp2; go_ret; exact ⟨rfl,rfl⟩)
def pCheck:List AVal→AMem→Option (AVal×AMem)
 | [.ptr id off],M=>match nth M id with
  |some (.cells cs)=>match cs with
   | .bself id' t::r=>if off=0∧id'=id∧((t=87∧r.length=1)∨(t=96∧r.length=2)) then some (.tuple [],M) else none
   |_=>none
  |_=>none
 |_,_=>none
theorem checks {args:List AVal} {M:AMem} {x:AVal×AMem} (h:pCheck args M=some x):SoundCall Tryz.prog 91 args M x:=by
 unfold pCheck at h
 split at h
 ·rename_i id off
  split at h
  ·rename_i cs hM
   split at h
   ·rename_i id' t r
    split at h
    ·rename_i hc
     obtain ⟨rfl,rfl,hc⟩:=hc
     injection h with h; subst h
     intro j w vs hr hG hl hv
     obtain ⟨u,rfl⟩:=one_arg hl
     rw [nth_eq] at hM
     obtain ⟨b,_,_,hj,rfl⟩:=(hv 0 _ u rfl rfl).ptr_inv
     obtain ⟨us,t0,hw,hlen,hcs,hcell⟩:=box_cell hr hM hj
     have hlen':us.size=r.length+1:=by simpa using hlen.symm
     have h0:us[0]?=some (us[0]'(by omega)):=Array.getElem?_eq_getElem (by omega)
     obtain ⟨b',_,hj',⟨vs',fr,hk⟩,hv0⟩:=(hcs 0 _ _ rfl h0).bself_inv
     rw [hj] at hj'; injection hj' with hj'; subst hj'
     rw [hw] at hk; injection hk with hk; injection hk with _ ht _
     subst ht
     rcases hv0 with hv0|hv0
     ·have hc0:w.cell? ⟨b,0,none⟩=some (.pointer none):=by rw [hcell,h0,hv0]
      refine (check_fresh b t0 us.size w hc0 (by simp [World.shape?,hw]) (by omega) (by simp [World.frozen?,hw]) ?_).mono ?_
      ·rcases hc with ⟨rfl,hr1⟩|⟨rfl,hr1⟩
       ·rw [show us.size=2 by omega]; kernel_rfl
       ·rw [show us.size=3 by omega]; kernel_rfl
      ·rintro e w' ⟨rfl,rfl⟩
       have hw':(w.setCell ⟨b,0,none⟩ (.pointer (some ⟨b,0,none⟩))).heap[b]?=some (.cells (us.setIfInBounds 0 (.pointer (some ⟨b,0,none⟩))) t0 (0,0)):=by
        simp [World.setCell,Array.getElem?_modify,hw]
       have hb:∀b',b'≠b→b'<w.heap.size→(w.setCell ⟨b,0,none⟩ (.pointer (some ⟨b,0,none⟩))).heap[b']?=w.heap[b']?:=fun b' hne _=>by
        simp [World.setCell,Array.getElem?_modify,Ne.symm hne]
       have q:Quiet w (w.setCell ⟨b,0,none⟩ (.pointer (some ⟨b,0,none⟩))):=⟨by simp [World.setCell],rfl,rfl,rfl⟩
       have htg:∀(vs:Array Value) (t:TypeId) (fr:Nat×Nat),w.heap[b]?=some (.cells vs t fr)→∃vs' fr',(w.setCell ⟨b,0,none⟩ (.pointer (some ⟨b,0,none⟩))).heap[b]?=some (.cells vs' t fr')∧vs'.size=vs.size:=fun vs t fr h=>by
        rw [hw] at h; injection h with h; injection h with h1 h _; subst h1; subst h; exact ⟨_,_,hw',by simp⟩
       have hset:M.set id' (.cells (.bself id' t0::r))=M:=by
        apply List.ext_getElem?
        intro q
        by_cases hq:id'=q
        ·subst hq; rw [set_same (lt_of_some hM),hM]
        ·rw [set_other hq]
       have ext:=Ext.store (bx' := .cells (.bself id' t0::r)) hM rfl rfl hj hr q hb htg
       have rel:=Rel.store (bx' := .cells (.bself id' t0::r)) hM rfl rfl hj hr q hb htg fun j' M' hx=>⟨_,t0,hw',by simpa using hlen,fun i c v hc' hv'=>by
        cases i with
        |zero =>
         simp at hc'; subst hc'
         have:v = .pointer (some ⟨b,0,none⟩):=by
          have hpos:0<us.size:=by omega
          simpa [hpos] using hv'.symm
         subst this
         obtain ⟨h1,bx,h2,h3⟩:=hx.fix _ _ hM rfl
         obtain ⟨cs',rfl⟩:=tag_cells h3
         exact .bself ⟨_,h2⟩ (h1.trans hj) ⟨_,_,hw'⟩ (.inr rfl)
        |succ i =>
         rw [Array.getElem?_setIfInBounds_ne (by omega)] at hv'
         exact (hcs (i+1) c v hc' hv').mono hx⟩
       rw [hset] at ext rel
       exact ⟨_,j,rfl,rel,ext,.tuple rfl fun i c v h=>by simp at h⟩
     ·have hc0:w.cell? ⟨b,0,none⟩=some (.pointer (some ⟨b,0,none⟩)):=by rw [hcell,h0,hv0]
      refine (check_used b w hc0).mono ?_
      rintro e w' ⟨rfl,rfl⟩
      exact ⟨_,j,rfl,hr,.refl _ _ _,.tuple rfl fun i c v h=>by simp at h⟩
    ·cases h
   ·cases h
  ·cases h
 ·cases h
def pString:List AVal→AMem→Option (AVal×AMem)
 | [.ptr id off],M=>match nth M id with
  |some (.cells cs)=>match cs with
   | .bself id' t :: .obuf k e x l::r=>match nth M k with
    |some (.tick sz n)=>if off=0∧e=5∧n=l.length∧l.length≤2 ^ 44∧(l≠[]∨x=true) then some (.str l,setN (setN M id (.cells (.bself id' t :: .any::r))) k (.tick sz (n+1))) else none
    |_=>none
   |_=>none
  |_=>none
 |_,_=>none
theorem strings {args:List AVal} {M:AMem} {y:AVal×AMem} (h:pString args M=some y):SoundCall Tryz.prog 51 args M y:=by
 unfold pString at h
 split at h
 ·rename_i id off
  split at h
  ·rename_i cs hM
   split at h
   ·rename_i id' t k e x l r
    split at h
    ·rename_i sz n hk
     split at h
     ·rename_i hc
      obtain ⟨rfl,rfl,rfl,hbig,hc⟩:=hc
      injection h with h; subst h
      intro j w vs hr hG hl hv
      obtain ⟨u,rfl⟩:=one_arg hl
      rw [nth_eq] at hM hk
      obtain ⟨b,_,_,hj,rfl⟩:=(hv 0 _ u rfl rfl).ptr_inv
      obtain ⟨us,t0,hw,hlen,hcs,hcell⟩:=box_cell hr hM hj
      have hlen':us.size=r.length+2:=by simpa using hlen.symm
      have h1:us[1]?=some (us[1]'(by omega)):=Array.getElem?_eq_getElem (by omega)
      obtain ⟨n0,g1,g2,g3,g4⟩:=(hcs 1 _ _ rfl h1).obuf_inv
      rw [hk] at g1; injection g1 with g1; injection g1 with g1 g1'
      subst g1; subst g1'
      have hkid:id≠k:=by rintro rfl; rw [hM] at hk; cases hk
      -- the memory behind it
      have q0:Quiet w w:=⟨Nat.le_refl _,rfl,rfl,rfl⟩
      have ext1:=Ext.store (bx' := .cells (.bself id' t :: .any::r)) hM rfl rfl hj hr q0 (fun _ _ _=>rfl) (fun vs t fr h=>⟨vs,fr,h,rfl⟩)
      have rel1:=Rel.store (bx' := .cells (.bself id' t :: .any::r)) hM rfl rfl hj hr q0 (fun _ _ _=>rfl) (fun vs t fr h=>⟨vs,fr,h,rfl⟩) fun j' M' hx=>⟨us,t0,hw,by simpa using hlen,fun i c v hc' hv'=>by
       match i,hc' with
       |0,hc'=>exact (hcs 0 c v hc' hv').mono hx
       |1,hc'=>injection hc' with hc'; subst hc'; exact .any _
       |i+2,hc'=>exact (hcs (i+2) c v hc' hv').mono hx⟩
      have hk1:(M.set id (.cells (.bself id' t :: .any::r)))[k]?=some (.tick 1 l.length):=by rw [set_other hkid]; exact hk
      rw [setN_eq,setN_eq]
      rcases g4 rfl with ⟨p1,p2,A,p3,p4⟩|⟨g,cap,cur,p0,p1,p2,p3,p4,p5⟩
      ·have hl0:l=[]:=List.eq_nil_of_length_eq_zero p2
       subst hl0
       have hx:x=true:=by rcases hc with hc|hc; exact absurd rfl hc; exact hc
       obtain rfl:=p4 hx
       have hc1:w.cell? ⟨b,1,none⟩=some (.slice none 0 0):=by rw [hcell,h1,p3]
       refine (string_none b w hc1).mono ?_
       rintro e w' ⟨rfl,rfl⟩
       have q:Quiet w w.drew:=⟨Nat.le_refl _,rfl,rfl,rfl⟩
       exact ⟨_,upd j k none,rfl,Rel.tickDrop hk1 (Nat.lt_succ_self _) rel1 q (fun _ _ _=>rfl) (fun b vs t fr _ h=>⟨fr,h⟩),ext1.trans (Ext.tickDrop hk1 (Nat.lt_succ_self _) rel1 q (fun _ _ _=>rfl) (fun b vs t fr _ h=>⟨fr,h⟩)),.plain (.str _)⟩
      ·have hl0:l≠[]:=by rintro rfl; simp at p0
       have hc1:w.cell? ⟨b,1,none⟩=some (.slice (some ⟨g,0,none⟩) l.length cap):=by rw [hcell,h1,p2]
       obtain ⟨A,cap',b1,off,sz1,vs1,e1,e2,e3,e4,e5,e6⟩:=g3.slice_inv
       rw [p2] at e1
       have hA:=e3 (by simpa using hl0)
       rw [hA] at e1
       injection e1 with e1 e1' e1''
       injection e1 with e1; injection e1 with e1 e1a
       subst e1; subst e1a
       refine (string_some b g cap cur l w hc1 p3 p5 p4 hl0 (by omega) fun q c hq=>?_).mono ?_
       ·have hq':(l.map u8V)[q]?=some (u8V c):=by rw [List.getElem?_map,hq]; rfl
        have hsz:sz1=1:=(e4 (u8V c) (List.mem_of_getElem? hq')).symm
        subst hsz
        have k1:=e5 q _ 0 (u8V c) hq' rfl
        have k2:=(Rep.plain (j:=j) (M:=M) (e6 q _ 0 (u8V c) hq' rfl)).int_inv
        simp only [Nat.mul_one,Nat.add_zero,Nat.zero_add] at k1 k2
        rw [k1.1,k2]
       ·rintro e w' ⟨rfl,rfl⟩
        have hne:l.length≠0:=by simpa using hl0
        have hfr:∀b',b'≠g→(w.drew.freeze ⟨g,0,none⟩ l.length).heap[b']?=w.heap[b']?:=fun b' hb'=>by
         unfold World.freeze
         rw [if_neg hne]
         show (w.heap.modify g _)[b']?=_
         rw [Array.getElem?_modify,if_neg (Ne.symm hb')]
        have hfg:∀vs t fr,w.heap[g]?=some (.cells vs t fr)→∃fr',(w.drew.freeze ⟨g,0,none⟩ l.length).heap[g]?=some (.cells vs t fr'):=fun vs t fr h=>by
         unfold World.freeze
         rw [if_neg hne]
         show ∃fr',(w.heap.modify g _)[g]?=_
         rw [Array.getElem?_modify,if_pos rfl,h]
         exact ⟨_,rfl⟩
        have q:Quiet w (w.drew.freeze ⟨g,0,none⟩ l.length):=by
         unfold World.freeze
         rw [if_neg hne]
         refine ⟨?_,rfl,rfl,rfl⟩
         show w.heap.size≤(w.heap.modify g _).size
         simp
        have a1:∀b',j k≠some b'→b'<w.heap.size→(w.drew.freeze ⟨g,0,none⟩ l.length).heap[b']?=w.heap[b']?:=fun b' hb' _=>hfr b' (by rintro rfl; exact hb' p1)
        have a2:∀b' vs t fr,j k=some b'→w.heap[b']?=some (.cells vs t fr)→∃fr',(w.drew.freeze ⟨g,0,none⟩ l.length).heap[b']?=some (.cells vs t fr'):=fun b' vs t fr hb' h=>by
         rw [p1] at hb'; injection hb' with hb'; subst hb'
         exact hfg vs t fr h
        exact ⟨_,upd j k none,rfl,Rel.tickDrop hk1 (Nat.lt_succ_self _) rel1 q a1 a2,ext1.trans (Ext.tickDrop hk1 (Nat.lt_succ_self _) rel1 q a1 a2),.plain (.str _)⟩
     ·cases h
    ·cases h
   ·cases h
  ·cases h
 ·cases h
end Go.Proofs.YtannopdcbocngaaGreatDoor
namespace Go.Proofs.YtannopdcbocngaaGreatDoor
open Go Go.Abs
def code:Nat→Option AFn
 |15=>some fn15
 |17=>some fn17
 |19=>some fn19
 |24=>some fn24
 |26=>some fn26
 |43=>some fn43
 |44=>some fn44
 |50=>some fn50
 |55=>some fn55
 |56=>some fn56
 |57=>some fn57
 |59=>some fn59
 |63=>some fn63
 |65=>some fn65
 |68=>some fn68
 |88=>some fn88
 |89=>some fn89
 |96=>some fn96
 |135=>some fn135
 |12=>some fn12
 |13=>some fn13
 |16=>some fn16
 |18=>some fn18
 |21=>some fn21
 |25=>some fn25
 |27=>some fn27
 |29=>some fn29
 |30=>some fn30
 |31=>some fn31
 |32=>some fn32
 |33=>some fn33
 |34=>some fn34
 |37=>some fn37
 |45=>some fn45
 |46=>some fn46
 |47=>some fn47
 |49=>some fn49
 |60=>some fn60
 |61=>some fn61
 |62=>some fn62
 |66=>some fn66
 |69=>some fn69
 |70=>some fn70
 |71=>some fn71
 |72=>some fn72
 |100=>some fn100
 |4=>some fn4
 |5=>some fn5
 |6=>some fn6
 |7=>some fn7
 |8=>some fn8
 |10=>some fn10
 |20=>some fn20
 |22=>some fn22
 |52=>some fn52
 |53=>some fn53
 |38=>some fn38
 |39=>some fn39
 |75=>some fn75
 |76=>some fn76
 |77=>some fn77
 |78=>some fn78
 |102=>some fn102
 |103=>some fn103
 |104=>some fn104
 |105=>some fn105
 |106=>some fn106
 |144=>some fn144
 |145=>some fn145
 |146=>some fn146
 |147=>some fn147
 |148=>some fn148
 |149=>some fn149
 |150=>some fn150
 |172=>some fn172
 |_=>none
noncomputable def prim:Nat→Option (List AVal→AMem→Option (AVal×AMem))
 |42=>some (pItoa)
 |58=>some (pAtoi)
 |98=>some (pIndexByte)
 |93=>some (pCut)
 |64=>some (pSplitS)
 |48=>some (pJoin)
 |91=>some (pCheck)
 |51=>some (pString)
 |110=>some (pClone 3 32)
 |107=>some (pClone 6 80)
 |108=>some (pInsert 6 80)
 |109=>some (pInsert 3 32)
 |171=>some (pCompare)
 |_=>none
noncomputable def tab:Tab:=⟨code,prim⟩
theorem code_ok (f:Nat) (fn:AFn) (h:code f=some fn):∃A func,Tryz.prog.funcs[f]?=some func∧compFn Tryz.prog A func=some fn:=by
 unfold code at h
 split at h
 ·injection h with h; subst h; exact ⟨_,_,Tryz.func15,ok15⟩
 ·injection h with h; subst h; exact ⟨_,_,Tryz.func17,ok17⟩
 ·injection h with h; subst h; exact ⟨_,_,Tryz.func19,ok19⟩
 ·injection h with h; subst h; exact ⟨_,_,Tryz.func24,ok24⟩
 ·injection h with h; subst h; exact ⟨_,_,Tryz.func26,ok26⟩
 ·injection h with h; subst h; exact ⟨_,_,Tryz.func43,ok43⟩
 ·injection h with h; subst h; exact ⟨_,_,Tryz.func44,ok44⟩
 ·injection h with h; subst h; exact ⟨_,_,Tryz.func50,ok50⟩
 ·injection h with h; subst h; exact ⟨_,_,Tryz.func55,ok55⟩
 ·injection h with h; subst h; exact ⟨_,_,Tryz.func56,ok56⟩
 ·injection h with h; subst h; exact ⟨_,_,Tryz.func57,ok57⟩
 ·injection h with h; subst h; exact ⟨_,_,Tryz.func59,ok59⟩
 ·injection h with h; subst h; exact ⟨_,_,Tryz.func63,ok63⟩
 ·injection h with h; subst h; exact ⟨_,_,Tryz.func65,ok65⟩
 ·injection h with h; subst h; exact ⟨_,_,Tryz.func68,ok68⟩
 ·injection h with h; subst h; exact ⟨_,_,Tryz.func88,ok88⟩
 ·injection h with h; subst h; exact ⟨_,_,Tryz.func89,ok89⟩
 ·injection h with h; subst h; exact ⟨_,_,Tryz.func96,ok96⟩
 ·injection h with h; subst h; exact ⟨_,_,Tryz.func135,ok135⟩
 ·injection h with h; subst h; exact ⟨_,_,Tryz.func12,ok12⟩
 ·injection h with h; subst h; exact ⟨_,_,Tryz.func13,ok13⟩
 ·injection h with h; subst h; exact ⟨_,_,Tryz.func16,ok16⟩
 ·injection h with h; subst h; exact ⟨_,_,Tryz.func18,ok18⟩
 ·injection h with h; subst h; exact ⟨_,_,Tryz.func21,ok21⟩
 ·injection h with h; subst h; exact ⟨_,_,Tryz.func25,ok25⟩
 ·injection h with h; subst h; exact ⟨_,_,Tryz.func27,ok27⟩
 ·injection h with h; subst h; exact ⟨_,_,Tryz.func29,ok29⟩
 ·injection h with h; subst h; exact ⟨_,_,Tryz.func30,ok30⟩
 ·injection h with h; subst h; exact ⟨_,_,Tryz.func31,ok31⟩
 ·injection h with h; subst h; exact ⟨_,_,Tryz.func32,ok32⟩
 ·injection h with h; subst h; exact ⟨_,_,Tryz.func33,ok33⟩
 ·injection h with h; subst h; exact ⟨_,_,Tryz.func34,ok34⟩
 ·injection h with h; subst h; exact ⟨_,_,Tryz.func37,ok37⟩
 ·injection h with h; subst h; exact ⟨_,_,Tryz.func45,ok45⟩
 ·injection h with h; subst h; exact ⟨_,_,Tryz.func46,ok46⟩
 ·injection h with h; subst h; exact ⟨_,_,Tryz.func47,ok47⟩
 ·injection h with h; subst h; exact ⟨_,_,Tryz.func49,ok49⟩
 ·injection h with h; subst h; exact ⟨_,_,Tryz.func60,ok60⟩
 ·injection h with h; subst h; exact ⟨_,_,Tryz.func61,ok61⟩
 ·injection h with h; subst h; exact ⟨_,_,Tryz.func62,ok62⟩
 ·injection h with h; subst h; exact ⟨_,_,Tryz.func66,ok66⟩
 ·injection h with h; subst h; exact ⟨_,_,Tryz.func69,ok69⟩
 ·injection h with h; subst h; exact ⟨_,_,Tryz.func70,ok70⟩
 ·injection h with h; subst h; exact ⟨_,_,Tryz.func71,ok71⟩
 ·injection h with h; subst h; exact ⟨_,_,Tryz.func72,ok72⟩
 ·injection h with h; subst h; exact ⟨_,_,Tryz.func100,ok100⟩
 ·injection h with h; subst h; exact ⟨_,_,Tryz.func4,ok4⟩
 ·injection h with h; subst h; exact ⟨_,_,Tryz.func5,ok5⟩
 ·injection h with h; subst h; exact ⟨_,_,Tryz.func6,ok6⟩
 ·injection h with h; subst h; exact ⟨_,_,Tryz.func7,ok7⟩
 ·injection h with h; subst h; exact ⟨_,_,Tryz.func8,ok8⟩
 ·injection h with h; subst h; exact ⟨_,_,Tryz.func10,ok10⟩
 ·injection h with h; subst h; exact ⟨_,_,Tryz.func20,ok20⟩
 ·injection h with h; subst h; exact ⟨_,_,Tryz.func22,ok22⟩
 ·injection h with h; subst h; exact ⟨_,_,Tryz.func52,ok52⟩
 ·injection h with h; subst h; exact ⟨_,_,Tryz.func53,ok53⟩
 ·injection h with h; subst h; exact ⟨_,_,Tryz.func38,ok38⟩
 ·injection h with h; subst h; exact ⟨_,_,Tryz.func39,ok39⟩
 ·injection h with h; subst h; exact ⟨_,_,Tryz.func75,ok75⟩
 ·injection h with h; subst h; exact ⟨_,_,Tryz.func76,ok76⟩
 ·injection h with h; subst h; exact ⟨_,_,Tryz.func77,ok77⟩
 ·injection h with h; subst h; exact ⟨_,_,Tryz.func78,ok78⟩
 ·injection h with h; subst h; exact ⟨_,_,Tryz.func102,ok102⟩
 ·injection h with h; subst h; exact ⟨_,_,Tryz.func103,ok103⟩
 ·injection h with h; subst h; exact ⟨_,_,Tryz.func104,ok104⟩
 ·injection h with h; subst h; exact ⟨_,_,Tryz.func105,ok105⟩
 ·injection h with h; subst h; exact ⟨_,_,Tryz.func106,ok106⟩
 ·injection h with h; subst h; exact ⟨_,_,Tryz.func144,ok144⟩
 ·injection h with h; subst h; exact ⟨_,_,Tryz.func145,ok145⟩
 ·injection h with h; subst h; exact ⟨_,_,Tryz.func146,ok146⟩
 ·injection h with h; subst h; exact ⟨_,_,Tryz.func147,ok147⟩
 ·injection h with h; subst h; exact ⟨_,_,Tryz.func148,ok148⟩
 ·injection h with h; subst h; exact ⟨_,_,Tryz.func149,ok149⟩
 ·injection h with h; subst h; exact ⟨_,_,Tryz.func150,ok150⟩
 ·injection h with h; subst h; exact ⟨_,_,Tryz.func172,ok172⟩
 ·cases h
theorem prim_ok (f:Nat) (g:List AVal→AMem→Option (AVal×AMem)) (h:prim f=some g) (args:List AVal) (M:AMem) (x:AVal×AMem) (hx:g args M=some x):enterable Tryz.prog f=true∧SoundCall Tryz.prog f args M x:=by
 unfold prim at h
 split at h
 ·injection h with h; subst h; exact ⟨by kernel_rfl,itoas hx⟩
 ·injection h with h; subst h; exact ⟨by kernel_rfl,atois hx⟩
 ·injection h with h; subst h; exact ⟨by kernel_rfl,indexBytes hx⟩
 ·injection h with h; subst h; exact ⟨by kernel_rfl,cuts hx⟩
 ·injection h with h; subst h; exact ⟨by kernel_rfl,splits hx⟩
 ·injection h with h; subst h; exact ⟨by kernel_rfl,joins hx⟩
 ·injection h with h; subst h; exact ⟨by kernel_rfl,checks hx⟩
 ·injection h with h; subst h; exact ⟨by kernel_rfl,strings hx⟩
 ·injection h with h; subst h; exact ⟨by kernel_rfl,clones110 hx⟩
 ·injection h with h; subst h; exact ⟨by kernel_rfl,clones107 hx⟩
 ·injection h with h; subst h; exact ⟨by kernel_rfl,insert108 hx⟩
 ·injection h with h; subst h; exact ⟨by kernel_rfl,insert109 hx⟩
 ·injection h with h; subst h; exact ⟨by kernel_rfl,compares171 hx⟩
 ·cases h
theorem tab_ok:TabOk Tryz.prog tab:=⟨code_ok,prim_ok⟩
theorem sound:SoundC Tryz.prog (acall tab):=acall_sound (by kernel_rfl) tab_ok
end Go.Proofs.YtannopdcbocngaaGreatDoor
namespace Go.Proofs.YtannopdcbocngaaGreatDoor
open Go Go.Abs
attribute [local irreducible] exK opsK opK gK forkK kr acall callOp owhen obind
abbrev Bytes:=List UInt8
abbrev eI (n:Int):AVal := .int .i64 n
theorem acall_prim {T:Tab} {f:Nat} {g:List AVal→AMem→Option (AVal×AMem)} {args:List AVal} {M:AMem} {x:AVal×AMem} (hp:T.prim f=some g) (h:g args M=some x):acall T f args M=some x:=by
 unfold acall
 refine lim_some (fun n x h=>acallN_up T n f args M x h) (n:=0) ?_
 unfold acallN
 rw [hp]
 exact h
theorem roomS {a:Nat} (h:a≤1099511627776):roomOk a 1=True:=by
 simp only [eq_iff_iff,iff_true]
 unfold roomOk
 omega
abbrev bld (p k:Nat) (l:Bytes):ABox := .cells [.bself p 87,.obuf k 5 true l]
abbrev bldM (l:Bytes):AMem:=[bld 0 1 l,.tick 1 l.length]
theorem callOpB {C:CallF} {f p k:Nat} {vs:List AVal} {r:AVal} {M:AMem} {l:Bytes} {b':AVal} {n':Nat} (hp:nth M p=some (bld p k l)) (hk:nth M k=some (.tick 1 l.length)) (hpk:p≠k)
  (h:C f (.ptr 0 0::vs) (bldM l)=some (r,[.cells [.bself 0 87,b'],.tick 1 n'])) (h1:vs.all AVal.flat=true) (h2:vs.flatMap AVal.ids=[])
  (h4:vs.map (AVal.ren (idxN [p,k]))=vs) (h5:r.renR (atN [p,k])=r) (h3:r.flatR=true) (hb:b'.flat1=true) :
  callOp C f (.ptr p 0::vs) M=some (r,setN (setN M p (.cells [.bself p 87,b'.ren1 (atN [p,k])])) k (.tick 1 n')):=by
 have hids:(AVal.ptr p 0::vs).flatMap AVal.ids=[p]:=by simp [AVal.ids,AVal.ids1,AVal.ids0,h2]
 have hi:idsAt M [p]=[p,k]:=by simp [idsAt,hp,ABox.ids,AVal.ids1,AVal.ids0]
 have hi2:idsAt M [p,k]=[p,k]:=by simp [idsAt,hp,hk,ABox.ids,AVal.ids1,AVal.ids0]
 have hc:([p]:List Nat).contains k=false:=by simpa using Ne.symm hpk
 have e0:reach1 M [p]=[p,k]:=by
  simp only [reach1,hi,addAll]
  have h1:([p]:List Nat).contains p=true:=by simp
  rw [if_pos h1,if_neg (by simpa using Ne.symm hpk)]
  rfl
 have e2:reach1 M [p,k]=[p,k]:=by
  simp only [reach1,hi2,addAll]
  rw [if_pos (by simp),if_pos (by simp)]
 have e1:reach M [p]=[p,k]:=by
  have ea:addAll [] [p]=[p]:=rfl
  simp only [reach,ea,e0,e2]
 have hfl:(AVal.ptr p 0::vs).all AVal.flat=true:=by simp only [List.all_cons,h1,Bool.and_true]; rfl
 unfold callOp
 rw [if_pos hfl,hids,e1]
 have i0:idxN [p,k] p=0:=by simp [idxN]
 have i1:idxN [p,k] k=1:=by simp [idxN,hpk]
 have hpkm:pickM M (idxN [p,k]) [p,k]=some (bldM l):=by
  simp [pickM,hp,hk,ABox.flat,AVal.flat1,AVal.flat0,ABox.ren,AVal.ren1,AVal.ren0,i0,i1]
 rw [hpkm]
 simp only [obind_some]
 rw [if_pos e2]
 have hrn:(AVal.ptr p 0::vs).map (AVal.ren (idxN [p,k])) = .ptr 0 0::vs:=by
  simp only [List.map_cons,h4]
  simp [AVal.ren,AVal.ren1,AVal.ren0,i0]
 rw [hrn,h]
 simp only [obind_some]
 rw [if_pos ⟨rfl,h3,by simp [ABox.flat,AVal.flat1,AVal.flat0] at hb ⊢; exact hb⟩,h5]
 simp [wback,ABox.ren,AVal.ren1,AVal.ren0,atN,nth]
theorem c91 (l:Bytes):acall tab 91 [.ptr 0 0] (bldM l)=some (.tuple [],bldM l):=acall_prim (g:=pCheck) rfl rfl
theorem k91 (l:Bytes):callOp (acall tab) 91 [.ptr 0 0] (bldM l)=some (.tuple [],bldM l) :=
 callOpB (p:=0) (k:=1) rfl rfl (by decide) (c91 l) rfl rfl rfl rfl rfl rfl
theorem c50 (l s:Bytes) (h:l.length+s.length≤1099511627776):acall tab 50 [.ptr 0 0,.str s] (bldM l)=some (.tuple [eI s.length,.raw .nilIface],bldM (l++s)):=by
 refine acall_ex rfl rfl rfl ?_
 have hr:=roomS h
 simp only [fn50,E50,k91,hr,EVT,EVD,↓reduceIte,Nat.reduceEqDiff,reduceCtorEq,Nat.reduceAdd,Nat.reduceLeDiff,ne_eq,Nat.reduceLT,Int.reduceLT,Int.reduceLE,Int.reduceNeg]
 simp
theorem k50 {p k:Nat} {M:AMem} {l:Bytes} (s:Bytes) (hp:nth M p=some (bld p k l)) (hk:nth M k=some (.tick 1 l.length)) (hpk:p≠k) (h:l.length+s.length≤1099511627776) :
  callOp (acall tab) 50 [.ptr p 0,.str s] M=some (.tuple [eI s.length,.raw .nilIface],setN (setN M p (bld p k (l++s))) k (.tick 1 (l++s).length)):=by
 have:=callOpB (vs:=[.str s]) hp hk hpk (c50 l s h) rfl rfl rfl rfl rfl rfl
 rw [this]
 simp [AVal.ren1,AVal.ren0,atN,nth]
theorem c89 (l:Bytes) (c:UInt8) (h:l.length+1≤1099511627776):acall tab 89 [.ptr 0 0,.int .u8 c.toNat] (bldM l)=some (.raw .nilIface,bldM (l++[c])):=by
 refine acall_ex rfl rfl rfl ?_
 have hr:=roomS h
 have hc:bytesOf [.int .u8 (c.toNat:Int)]=some [c]:=by simp [bytesOf]
 have hm:([AVal.int .u8 (c.toNat:Int)]=[u8V c])=True:=by simp [u8V]
 simp only [fn89,E89,k91,hr,hc,hm,EVT,EVD,↓reduceIte,Nat.reduceEqDiff,reduceCtorEq,Nat.reduceAdd,Nat.reduceLeDiff,ne_eq,Nat.reduceLT,Int.reduceLT,Int.reduceLE,Int.reduceNeg]
 simp
theorem k89 {p k:Nat} {M:AMem} {l:Bytes} (c:UInt8) (hp:nth M p=some (bld p k l)) (hk:nth M k=some (.tick 1 l.length)) (hpk:p≠k) (h:l.length+1≤1099511627776) :
  callOp (acall tab) 89 [.ptr p 0,.int .u8 c.toNat] M=some (.raw .nilIface,setN (setN M p (bld p k (l++[c]))) k (.tick 1 (l++[c]).length)):=by
 have:=callOpB (vs:=[.int .u8 c.toNat]) hp hk hpk (c89 l c h) rfl rfl rfl rfl rfl rfl
 rw [this]
 simp [AVal.ren1,AVal.ren0,atN,nth]
theorem c51 (l:Bytes) (h:l.length≤1099511627776):acall tab 51 [.ptr 0 0] (bldM l)=some (.str l,[.cells [.bself 0 87,.any],.tick 1 (l.length+1)]):=by
 refine acall_prim (g:=pString) rfl ?_
 unfold pString
 simp only [nth]
 rw [if_pos ⟨trivial,trivial,trivial,by omega,.inr trivial⟩]
 rfl
theorem k51 {p k:Nat} {M:AMem} {l:Bytes} (hp:nth M p=some (bld p k l)) (hk:nth M k=some (.tick 1 l.length)) (hpk:p≠k) (h:l.length≤1099511627776) :
  callOp (acall tab) 51 [.ptr p 0] M=some (.str l,setN (setN M p (.cells [.bself p 87,.any])) k (.tick 1 (l.length+1))) :=
 callOpB (vs:=[]) hp hk hpk (c51 l h) rfl rfl rfl rfl rfl rfl
def plainE (c:UInt8):Bool:=(decide (97≤ior .u8 c.toNat 32)&&decide (ior .u8 c.toNat 32≤122))||(decide ((48:Int)≤c.toNat)&&decide ((c.toNat:Int)≤57))||decide (0≤Lib.indexByte [47,46,95,45] c)
theorem c98 (s:Bytes) (c:UInt8):acall tab 98 [.str s,.int .u8 c.toNat] []=some (eI (Lib.indexByte s c),[]):=by
 refine acall_prim (g:=pIndexByte) rfl ?_
 simp [pIndexByte]
theorem k98 (s:Bytes) (c:UInt8) (M:AMem):callOp (acall tab) 98 [.str s,.int .u8 c.toNat] M=some (eI (Lib.indexByte s c),M):=callOp0 (c98 s c) rfl rfl rfl rfl rfl M
theorem c88 (c:UInt8):acall tab 88 [.int .u8 c.toNat] []=some (.bool (plainE c),[]):=by
 refine acall_ex rfl rfl rfl ?_
 simp only [fn88,E88,k98,EVT,EVD,↓reduceIte,Nat.reduceEqDiff,reduceCtorEq,Nat.reduceAdd,Nat.reduceLeDiff,ne_eq,Nat.reduceLT,Int.reduceLT,Int.reduceLE,Int.reduceNeg]
 repeat' (first|(refine fork_split (fun hb=>?_) (fun hb=>?_)<;>simp only [hb,k98,EVT,EVD,↓reduceIte,Nat.reduceEqDiff,reduceCtorEq,Nat.reduceAdd,Nat.reduceLeDiff,ne_eq,Nat.reduceLT,Int.reduceLT,Int.reduceLE,Int.reduceNeg])|(refine guard_split (fun hb=>?_) (fun hb=>?_)<;>simp only [hb,k98,EVT,EVD,↓reduceIte,Nat.reduceEqDiff,reduceCtorEq,Nat.reduceAdd,Nat.reduceLeDiff,ne_eq,Nat.reduceLT,Int.reduceLT,Int.reduceLE,Int.reduceNeg])|(refine opK_pick (fun hb=>?_) (fun hb=>?_)<;>simp only [hb,k98,EVT,EVD,↓reduceIte,Nat.reduceEqDiff,reduceCtorEq,Nat.reduceAdd,Nat.reduceLeDiff,ne_eq,Nat.reduceLT,Int.reduceLT,Int.reduceLE,Int.reduceNeg]))
 all_goals (simp_all [plainE]<;>omega)
end Go.Proofs.YtannopdcbocngaaGreatDoor
namespace Go.Proofs.YtannopdcbocngaaGreatDoor
open Go Go.Abs
attribute [local irreducible] exK opsK opK gK forkK kr acall callOp owhen obind
theorem k88 (c:UInt8) (M:AMem):callOp (acall tab) 88 [.int .u8 c.toNat] M=some (.bool (plainE c),M):=callOp0 (c88 c) rfl rfl rfl rfl rfl M
def hexL:Bytes:=[48,49,50,51,52,53,54,55,56,57,97,98,99,100,101,102]
def hexD (n:Nat):UInt8:=hexL.getD n 0
def escB (c:UInt8):Bytes:=if plainE c then [c] else [37,hexD (c.toNat / 16),hexD (c.toNat % 16)]
def escN (s:Bytes):Bytes:=s.flatMap escB
theorem escB_le (c:UInt8):(escB c).length≤3:=by unfold escB; split<;>simp
theorem escN_le (s:Bytes):(escN s).length≤3*s.length:=by
 induction s with
 |nil=>simp [escN]
 |cons c r ih =>
  have:=escB_le c
  simp only [escN,List.flatMap_cons,List.length_append,List.length_cons] at ih ⊢
  omega
theorem hex_facts:∀n:Nat,n<256→(n:Int).fdiv (2 ^ min (Int.toNat 4) IntKind.u8.bits)=((n / 16:Nat):Int)∧IntKind.u8.wrap (((n / 16:Nat):Int)+1)=((n / 16+1:Nat):Int)∧iand .u8 n 15=((n % 16:Nat):Int)∧IntKind.u8.wrap (((n % 16:Nat):Int)+1)=((n % 16+1:Nat):Int):=by decide +kernel
theorem hex_cut:∀n:Nat,n<16→List.drop n (48::List.take n [49,50,51,52,53,54,55,56,57,97,98,99,100,101,102])=[hexD n]:=by decide +kernel
theorem hex_ok (n:Nat) (h:n<16):(((n+1:Nat):Int)≤((16:Nat):Int)∧((n:Nat):Int)≤((n+1:Nat):Int))=True:=by
 simp only [eq_iff_iff,iff_true]; omega
theorem escN_snoc (pre:Bytes) (c:UInt8):escN (pre++[c])=escN pre++escB c:=by simp [escN]
theorem loop44 (s:Bytes) (hs:s.length≤1000000) (C:CallF) (hC:C=acall tab):∀(r pre:Bytes),s=pre++r→∀(fn:List ARes) (base:Nat) (k:List K),
  exK C fn base (.block 0::k) (.loop [0,3,7,8] lb44_0) [(0,.str s),(3,.ptr 1 0),(7,eI s.length),(8,eI pre.length)] [.tick 1 (escN pre).length,bld 1 0 (escN pre)] =
  kr C fn base k ⟨.normal,[(0,.str s),(3,.ptr 1 0),(7,eI s.length),(8,eI s.length),(9,.bool false)],[.tick 1 (escN s).length,bld 1 0 (escN s)]⟩
 | [],pre,he,fn,base,k=>by
  subst hC
  have:pre=s:=by simpa using he.symm
  subst this
  rw [exK_loop]
  have hlt:decide ((pre.length:Int)<pre.length)=false:=by simp
  simp only [E44,hlt,EVT,EVD,↓reduceIte,Nat.reduceEqDiff,reduceCtorEq,Nat.reduceAdd,Nat.reduceLeDiff,ne_eq,Nat.reduceLT,Int.reduceLT,Int.reduceLE,Int.reduceNeg]
 |c::r,pre,he,fn,base,k=>by
  subst hC
  have hl:pre.length<s.length:=by rw [he]; simp
  have hlt:decide ((pre.length:Int)<s.length)=true:=by simpa using hl
  have hix:s[pre.length]?=some c:=by rw [he]; simp
  have hn:(0:Int)≤pre.length:=by omega
  have hw:IntKind.i64.wrap ((pre.length:Int)+1)=((pre++[c]).length:Int):=by rw [List.length_append,wrapS (by omega) (by omega)]; simp
  have hle:=escN_le pre
  have ih:=loop44 s hs (acall tab) rfl r (pre++[c]) (by simpa using he) fn base k
  rw [exK_loop]
  simp only [E44,hlt,hix,k88,EVT,EVD,↓reduceIte,Nat.reduceEqDiff,reduceCtorEq,Nat.reduceAdd,Nat.reduceLeDiff,ne_eq,Nat.reduceLT,Int.reduceLT,Int.reduceLE,Int.reduceNeg]
  refine fork_split (fun hb=>?_) (fun hb=>?_)
  ·have hk:=k89 (p:=1) (k:=0) (M:=[.tick 1 (escN pre).length,bld 1 0 (escN pre)]) c rfl rfl (by decide) (by omega)
   have he2:escN (pre++[c])=escN pre++[c]:=by rw [escN_snoc,escB,if_pos hb]
   rw [he2] at ih
   simp only [List.length_append,List.length_cons,List.length_nil,Nat.zero_add] at ih hw
   simp only [E44,hb,hk,hw,EVT,EVD,↓reduceIte,Nat.reduceEqDiff,reduceCtorEq,Nat.reduceAdd,Nat.reduceLeDiff,ne_eq,Nat.reduceLT,Int.reduceLT,Int.reduceLE,Int.reduceNeg]
   exact ih
  ·obtain ⟨h1,h2,h3,h4⟩:=hex_facts c.toNat c.toNat_lt
   have ha:c.toNat / 16<16:=by have:=c.toNat_lt; omega
   have hb':c.toNat % 16<16:=by omega
   have hk:=k50 (p:=1) (k:=0) (M:=[.tick 1 (escN pre).length,bld 1 0 (escN pre)]) [37,hexD (c.toNat / 16),hexD (c.toNat % 16)] rfl rfl (by decide) (by simp; omega)
   have he2:escN (pre++[c])=escN pre++[37,hexD (c.toNat / 16),hexD (c.toNat % 16)]:=by rw [escN_snoc,escB,if_neg (by simp [hb])]
   rw [he2] at ih
   simp only [List.length_append,List.length_cons,List.length_nil,Nat.zero_add] at ih hw
   simp only [E44,hb,h1,h2,h3,h4,hex_ok _ ha,hex_ok _ hb',hex_cut _ ha,hex_cut _ hb',hk,hw,EVT,EVD,↓reduceIte,Nat.reduceEqDiff,reduceCtorEq,Nat.reduceAdd,Nat.reduceLeDiff,ne_eq,Nat.reduceLT,Int.reduceLT,Int.reduceLE,Int.reduceNeg]
   exact ih
theorem c44 (s:Bytes) (hs:s.length≤1000000):acall tab 44 [.str s] []=some (.str (escN s),[]):=by
 refine acall_ex rfl rfl rfl ?_
 have h0:=fun fn base k=>loop44 s hs (acall tab) rfl s [] rfl fn base k
 have hle:=escN_le s
 have hk:=k51 (p:=1) (k:=0) (M:=[.tick 1 (escN s).length,bld 1 0 (escN s)]) rfl rfl (by decide) (by omega)
 simp only [fn44,E44,EVT,EVD,↓reduceIte,Nat.reduceEqDiff,reduceCtorEq,Nat.reduceAdd,Nat.reduceLeDiff,ne_eq,Nat.reduceLT,Int.reduceLT,Int.reduceLE,Int.reduceNeg]
 refine (h0 _ _ _).trans ?_
 simp only [E44,hk,EVT,EVD,↓reduceIte,Nat.reduceEqDiff,reduceCtorEq,Nat.reduceAdd,Nat.reduceLeDiff,ne_eq,Nat.reduceLT,Int.reduceLT,Int.reduceLE,Int.reduceNeg]
theorem k44 (s:Bytes) (hs:s.length≤1000000) (M:AMem):callOp (acall tab) 44 [.str s] M=some (.str (escN s),M):=callOp0 (c44 s hs) rfl rfl rfl rfl rfl M
end Go.Proofs.YtannopdcbocngaaGreatDoor
namespace Go.Proofs.YtannopdcbocngaaGreatDoor
open Go Go.Abs
attribute [local irreducible] exK opsK opK gK forkK kr acall callOp owhen obind
def okI (n:Int):Prop := -9223372036854775808≤n∧n≤9223372036854775807
theorem c42 (n:Int) (h:okI n):acall tab 42 [.int .i64 n] []=some (.str (Lib.itoa n),[]):=by
 refine acall_prim (g:=pItoa) rfl ?_
 unfold pItoa
 simp only []
 rw [if_pos ⟨trivial,h.1,h.2⟩]
theorem k42 (n:Int) (h:okI n) (M:AMem):callOp (acall tab) 42 [.int .i64 n] M=some (.str (Lib.itoa n),M):=callOp0 (c42 n h) rfl rfl rfl rfl rfl M
theorem itoa_le {n:Int} (h:okI n):(Lib.itoa n).length≤21:=Lib.itoa_length_le n h.1 h.2
structure Fld where
 word:Bytes
 n:Int
 s:Bytes
 deriving DecidableEq,Inhabited
def eFldC (f:Fld):List AVal:=[.str f.word,.int .i64 f.n,.str f.s]
abbrev eFld (f:Fld):AVal := .agg (eFldC f)
structure FldOk (f:Fld):Prop where
 word:f.word.length≤100000000
 n:okI f.n
 s:f.s.length≤100000000
def fldN (f:Fld):Bytes:=if f.n != 0 then 32::(f.word++[61]++Lib.itoa f.n) else if f.s != [] then 32::(f.word++[61]++f.s) else []
def fldsN (l:List Fld):Bytes:=l.flatMap fldN
def lineN (first:Bytes) (l:List Fld):Bytes:=first++fldsN l
theorem fldN_le {f:Fld} (h:FldOk f):(fldN f).length≤300000000:=by
 have:=itoa_le h.n; have:=h.word; have:=h.s
 unfold fldN
 split
 ·simp; omega
 ·split
  ·simp; omega
  ·simp
theorem fldsN_le:∀ {l:List Fld},(∀f,f∈l→FldOk f)→(fldsN l).length≤300000000*l.length
 | [],_=>by simp [fldsN]
 |f::r,h=>by
  have h1:=fldN_le (h f (by simp))
  have h2:=fldsN_le fun g hg=>h g (List.mem_cons_of_mem _ hg)
  simp only [fldsN,List.flatMap_cons,List.length_append,List.length_cons] at h2 ⊢
  omega
theorem loop43 (l:List Fld) (hok:∀f,f∈l→FldOk f) (hl:l.length≤100) (C:CallF) (hC:C=acall tab):∀(r pre:List Fld),l=pre++r→∀(t:Bytes),t.length≤100000000+300000000*pre.length→∀(fn:List ARes) (base:Nat) (k:List K),
  exK C fn base (.block 0::k) (.loop [5,10,11,12] lb43_0) [(5,.ptr 1 0),(10,.slice .sh (l.map eFld)),(11,eI l.length),(12,eI pre.length)] [.tick 1 t.length,bld 1 0 t] =
  kr C fn base k ⟨.normal,[(5,.ptr 1 0),(10,.slice .sh (l.map eFld)),(11,eI l.length),(12,eI l.length),(13,.bool false)],[.tick 1 (t++fldsN r).length,bld 1 0 (t++fldsN r)]⟩
 | [],pre,he,t,ht,fn,base,k=>by
  subst hC
  have:pre=l:=by simpa using he.symm
  subst this
  rw [exK_loop]
  have hlt:decide ((pre.length:Int)<pre.length)=false:=by simp
  have h0:t++fldsN []=t:=by simp [fldsN]
  rw [h0]
  simp only [E43,hlt,EVT,EVD,↓reduceIte,Nat.reduceEqDiff,reduceCtorEq,Nat.reduceAdd,Nat.reduceLeDiff,ne_eq,Nat.reduceLT,Int.reduceLT,Int.reduceLE,Int.reduceNeg]
 |f::r,pre,he,t,ht,fn,base,k=>by
  subst hC
  have hl':pre.length<l.length:=by rw [he]; simp
  have hlt:decide ((pre.length:Int)<l.length)=true:=by simpa using hl'
  have hix:l[pre.length]?=some f:=by rw [he]; simp
  have hn:(0:Int)≤pre.length:=by omega
  have hw:IntKind.i64.wrap ((pre.length:Int)+1)=((pre++[f]).length:Int):=by rw [List.length_append,wrapS (by omega) (by omega)]; simp
  have hfo:=hok f (by rw [he]; simp)
  have h1:=hfo.word; have h2:=hfo.s; have h3:=itoa_le hfo.n
  have h4:=fldN_le hfo
  have ih:=loop43 l hok hl (acall tab) rfl r (pre++[f]) (by simpa using he) (t++fldN f) (by simp; omega) fn base k
  have hfr:t++fldN f++fldsN r=t++fldsN (f::r):=by simp [fldsN]
  rw [hfr] at ih
  generalize t++fldsN (f::r)=u at ih ⊢
  have hi:=fun M=>k42 f.n hfo.n M
  simp only [List.length_append,List.length_cons,List.length_nil,Nat.zero_add] at ih hw
  rw [exK_loop]
  simp (disch:=omega) only [E43,hlt,hix,eFldC,hi,EVT,EVD,↓reduceIte,Nat.reduceEqDiff,reduceCtorEq,Nat.reduceAdd,Nat.reduceLeDiff,ne_eq,Nat.reduceLT,Int.reduceLT,Int.reduceLE,Int.reduceNeg]
  refine fork_split (fun hb=>?_) (fun hb=>?_)
  ·have he2:fldN f=32::(f.word++[61]++Lib.itoa f.n):=by rw [fldN,if_pos hb]
   rw [he2] at ih
   have hk:=k50 (p:=1) (k:=0) (M:=[.tick 1 t.length,bld 1 0 t,.cells (eFldC f)]) (32::(f.word++[61]++Lib.itoa f.n)) rfl rfl (by decide) (by simp; omega)
   simp only [eFldC,List.length_append,List.length_cons,List.length_nil,Nat.zero_add] at hk ih
   simp (config:={maxSteps:=1000000}) (disch:=omega) only [E43,hb,hi,eFldC,EVT,EVD,↓reduceIte,Nat.reduceEqDiff,reduceCtorEq,Nat.reduceAdd,Nat.reduceLeDiff,ne_eq,Nat.reduceLT,Int.reduceLT,Int.reduceLE,Int.reduceNeg]
   rw [hk]
   simp only [E43,hw,EVT,EVD,↓reduceIte,Nat.reduceEqDiff,reduceCtorEq,Nat.reduceAdd,Nat.reduceLeDiff,ne_eq,Nat.reduceLT,Int.reduceLT,Int.reduceLE,Int.reduceNeg]
   exact ih
  ·simp (disch:=omega) only [E43,hb,eFldC,EVT,EVD,↓reduceIte,Nat.reduceEqDiff,reduceCtorEq,Nat.reduceAdd,Nat.reduceLeDiff,ne_eq,Nat.reduceLT,Int.reduceLT,Int.reduceLE,Int.reduceNeg]
   refine fork_split (fun hc=>?_) (fun hc=>?_)
   ·have he2:fldN f=32::(f.word++[61]++f.s):=by rw [fldN,if_neg (by simp [hb]),if_pos (by simpa using hc)]
    rw [he2] at ih
    have hk:=k50 (p:=1) (k:=0) (M:=[.tick 1 t.length,bld 1 0 t,.cells (eFldC f)]) (32::(f.word++[61]++f.s)) rfl rfl (by decide) (by simp; omega)
    simp only [eFldC,List.length_append,List.length_cons,List.length_nil,Nat.zero_add] at hk ih
    simp (config:={maxSteps:=1000000}) (disch:=omega) only [E43,hb,hc,eFldC,EVT,EVD,↓reduceIte,Nat.reduceEqDiff,reduceCtorEq,Nat.reduceAdd,Nat.reduceLeDiff,ne_eq,Nat.reduceLT,Int.reduceLT,Int.reduceLE,Int.reduceNeg]
    rw [hk]
    simp only [E43,hw,EVT,EVD,↓reduceIte,Nat.reduceEqDiff,reduceCtorEq,Nat.reduceAdd,Nat.reduceLeDiff,ne_eq,Nat.reduceLT,Int.reduceLT,Int.reduceLE,Int.reduceNeg]
    exact ih
   ·have he2:fldN f=[]:=by rw [fldN,if_neg (by simp [hb]),if_neg (by simpa using hc)]
    rw [he2] at ih
    simp only [eFldC,List.append_nil,List.length_nil,Nat.add_zero] at ih
    simp (config:={maxSteps:=1000000}) (disch:=omega) only [E43,hb,hc,hw,eFldC,EVT,EVD,↓reduceIte,Nat.reduceEqDiff,reduceCtorEq,Nat.reduceAdd,Nat.reduceLeDiff,ne_eq,Nat.reduceLT,Int.reduceLT,Int.reduceLE,Int.reduceNeg]
    exact ih
theorem lineN_le {first:Bytes} {l:List Fld} (hf:first.length≤100000000) (hok:∀f,f∈l→FldOk f) (hl:l.length≤100):(lineN first l).length≤40000000000:=by
 have:=fldsN_le hok
 simp only [lineN,List.length_append]; omega
theorem c43 (first:Bytes) (hf:first.length≤100000000) (l:List Fld) (hok:∀f,f∈l→FldOk f) (hl:l.length≤100):acall tab 43 [.str first,.slice .sh (l.map eFld)] []=some (.str (lineN first l),[]):=by
 refine acall_ex rfl rfl rfl ?_
 have hk:=k50 (p:=1) (k:=0) (M:=[.tick 1 0,bld 1 0 []]) first rfl rfl (by decide) (by simp; omega)
 have h0:=loop43 l hok hl (acall tab) rfl l [] rfl first (by simp; omega)
 have hle:=lineN_le hf hok hl
 have hk2:=k51 (p:=1) (k:=0) (M:=[.tick 1 (lineN first l).length,bld 1 0 (lineN first l)]) rfl rfl (by decide) (by omega)
 simp only [List.length_nil,Nat.zero_add,List.nil_append] at hk h0
 simp only [fn43,E43,hk,EVT,EVD,↓reduceIte,Nat.reduceEqDiff,reduceCtorEq,Nat.reduceAdd,Nat.reduceLeDiff,ne_eq,Nat.reduceLT,Int.reduceLT,Int.reduceLE,Int.reduceNeg]
 refine (h0 _ _ _).trans ?_
 rw [show first++fldsN l=lineN first l from rfl]
 simp only [E43,hk2,EVT,EVD,↓reduceIte,Nat.reduceEqDiff,reduceCtorEq,Nat.reduceAdd,Nat.reduceLeDiff,ne_eq,Nat.reduceLT,Int.reduceLT,Int.reduceLE,Int.reduceNeg]
theorem k43 (first:Bytes) (hf:first.length≤100000000) (l:List Fld) (hok:∀f,f∈l→FldOk f) (hl:l.length≤100) (M:AMem):callOp (acall tab) 43 [.str first,.slice .sh (l.map eFld)] M=some (.str (lineN first l),M) :=
 callOp0 (c43 first hf l hok hl) rfl rfl rfl rfl rfl M
end Go.Proofs.YtannopdcbocngaaGreatDoor
namespace Go.Proofs.YtannopdcbocngaaGreatDoor
open Go Go.Abs
attribute [local irreducible] exK opsK opK gK forkK kr acall callOp owhen obind
structure Op where
 kind:Int
 client:Int
 path:Bytes
 dest:Bytes
 n:Int
 m:Int
 handle:Int
 data:Bytes
 deriving DecidableEq,Inhabited
def eOpC (t:Tk) (o:Op):List AVal:=[.int .i64 o.kind,.int .i64 o.client,.str o.path,.str o.dest,.int .i64 o.n,.int .i64 o.m,.int .i64 o.handle,.slice t (o.data.map u8V)]
abbrev eOp (t:Tk) (o:Op):AVal := .agg (eOpC t o)
structure OpOk (o:Op):Prop where
 kind:okI o.kind
 client:okI o.client
 path:o.path.length≤1000000
 dest:o.dest.length≤1000000
 n:okI o.n
 m:okI o.m
 handle:okI o.handle
 data:o.data.length≤1000000
def wClient:Bytes:=[99,108,105,101,110,116]
def wPath:Bytes:=[112,97,116,104]
def wTo:Bytes:=[116,111]
def wN:Bytes:=[110]
def wM:Bytes:=[109]
def wHandle:Bytes:=[104,97,110,100,108,101]
def wData:Bytes:=[100,97,116,97]
def opFlds (o:Op):List Fld:=[⟨wClient,o.client,[]⟩,⟨wPath,0,escN o.path⟩,⟨wTo,0,escN o.dest⟩,⟨wN,o.n,[]⟩,⟨wM,o.m,[]⟩,⟨wHandle,o.handle,[]⟩,⟨wData,0,escN o.data⟩]
def firstN (k:Int):Bytes:=if 0<k∧k<18 then wordsL.getD k.toNat [] else 111::112::Lib.itoa k
def opN (o:Op):Bytes:=lineN (firstN o.kind) (opFlds o)
theorem okI_zero:okI 0:=by unfold okI; omega
theorem opFlds_ok {o:Op} (h:OpOk o):∀f,f∈opFlds o→FldOk f:=by
 intro f hf
 have h1:=escN_le o.path; have h2:=escN_le o.dest; have h3:=escN_le o.data
 have h4:=h.path; have h5:=h.dest; have h6:=h.data
 simp only [opFlds,List.mem_cons,List.not_mem_nil,or_false] at hf
 rcases hf with rfl|rfl|rfl|rfl|rfl|rfl|rfl
 ·exact ⟨by simp [wClient],h.client,by simp⟩
 ·exact ⟨by simp [wPath],okI_zero,by simp; omega⟩
 ·exact ⟨by simp [wTo],okI_zero,by simp; omega⟩
 ·exact ⟨by simp [wN],h.n,by simp⟩
 ·exact ⟨by simp [wM],h.m,by simp⟩
 ·exact ⟨by simp [wHandle],h.handle,by simp⟩
 ·exact ⟨by simp [wData],okI_zero,by simp; omega⟩
theorem words_le:∀k,k<18→(wordsL.getD k []).length≤6:=by decide
theorem firstN_le {k:Int} (h:okI k):(firstN k).length≤23:=by
 unfold firstN
 split
 ·have:=words_le k.toNat (by omega); omega
 ·have:=itoa_le h
  simp; omega
theorem words_at {k:Nat} (h:k<18):gv0[k]?=some (.str (wordsL.getD k [])):=by
 have:k<wordsL.length:=h
 simp [gv0,this]
theorem bytes_u8:∀l:Bytes,bytesOf (l.map u8V)=some l
 | []=>rfl
 |b::l=>by
  have:=bytes_u8 l
  simp [bytesOf,u8V] at this ⊢
  simp [this]
theorem c15 (o:Op) (h:OpOk o) (t:Tk):acall tab 15 [eOp t o] []=some (.str (opN o),[]):=by
 refine acall_ex rfl rfl rfl ?_
 have i1:=fun M=>k42 o.kind h.kind M
 have s1:=fun M=>k44 o.path (by have:=h.path; omega) M
 have s2:=fun M=>k44 o.dest (by have:=h.dest; omega) M
 have s3:=fun M=>k44 o.data (by have:=h.data; omega) M
 have hb:=bytes_u8 o.data
 have hl:=fun M=>k43 (firstN o.kind) (by have:=firstN_le h.kind; omega) (opFlds o) (opFlds_ok h) (by simp [opFlds]) M
 have hi:=itoa_le h.kind
 simp (disch:=omega) only [fn15,E15,eOpC,i1,s1,s2,s3,hb,EVT,EVD,↓reduceIte,Nat.reduceEqDiff,reduceCtorEq,Nat.reduceAdd,Nat.reduceLeDiff,ne_eq,Nat.reduceLT,Int.reduceLT,Int.reduceLE,Int.reduceNeg]
 have hx:opN o=lineN (firstN o.kind) (opFlds o):=rfl
 generalize opN o=u at hx ⊢
 rw [←hx] at hl
 simp only [opFlds,List.map_cons,List.map_nil,eFld,eFldC,wClient,wPath,wTo,wN,wM,wHandle,wData] at hl
 refine guard_split (fun hb=>?_) (fun hb=>?_)
 ·simp only [hb,EVT,EVD,↓reduceIte,Nat.reduceEqDiff,reduceCtorEq,Nat.reduceAdd,Nat.reduceLeDiff,ne_eq,Nat.reduceLT,Int.reduceLT,Int.reduceLE,Int.reduceNeg]
  refine fork_split (fun hc=>?_) (fun hc=>?_)
  ·have e1:firstN o.kind=wordsL.getD o.kind.toNat []:=by rw [firstN,if_pos ⟨by simpa using hb,by simpa using hc⟩]
   have hn:((0:Int)≤o.kind)=True:=by simp at hb; simp; omega
   have hw:=words_at (k:=o.kind.toNat) (by simp at hb hc; omega)
   rw [←e1] at hw
   have hs:(o.kind<((18:Nat):Int)∧18*1≤gv0.length)=True:=by
    simp only [eq_iff_iff,iff_true]
    exact ⟨by simpa using hc,by decide⟩
   have hd:List.drop (o.kind.toNat*1) gv0 = .str (firstN o.kind)::List.drop (o.kind.toNat+1) gv0:=by
    rw [Nat.mul_one,List.drop_eq_getElem?_toList_append,hw]; rfl
   simp (config:={maxSteps:=1000000}) (disch:=omega) only [E15,hb,hc,hs,hn,hd,s1,s2,s3,bytes_u8,EVT,EVD,↓reduceIte,Nat.reduceEqDiff,reduceCtorEq,Nat.reduceAdd,Nat.reduceLeDiff,ne_eq,Nat.reduceLT,Int.reduceLT,Int.reduceLE,Int.reduceNeg]
   rw [hl]
   simp only [EVT,EVD,↓reduceIte,Nat.reduceEqDiff,reduceCtorEq,Nat.reduceAdd,Nat.reduceLeDiff,ne_eq,Nat.reduceLT,Int.reduceLT,Int.reduceLE,Int.reduceNeg]
  ·have e1:firstN o.kind=111::112::Lib.itoa o.kind:=by rw [firstN,if_neg (by simp at hc; omega)]
   rw [e1] at hl
   simp (config:={maxSteps:=1000000}) (disch:=omega) only [E15,hb,hc,s1,s2,s3,bytes_u8,EVT,EVD,↓reduceIte,Nat.reduceEqDiff,reduceCtorEq,Nat.reduceAdd,Nat.reduceLeDiff,ne_eq,Nat.reduceLT,Int.reduceLT,Int.reduceLE,Int.reduceNeg]
   rw [hl]
   simp only [EVT,EVD,↓reduceIte,Nat.reduceEqDiff,reduceCtorEq,Nat.reduceAdd,Nat.reduceLeDiff,ne_eq,Nat.reduceLT,Int.reduceLT,Int.reduceLE,Int.reduceNeg]
 ·have e1:firstN o.kind=111::112::Lib.itoa o.kind:=by rw [firstN,if_neg (by simp at hb; omega)]
  rw [e1] at hl
  simp (config:={maxSteps:=1000000}) (disch:=omega) only [E15,hb,s1,s2,s3,bytes_u8,EVT,EVD,↓reduceIte,Nat.reduceEqDiff,reduceCtorEq,Nat.reduceAdd,Nat.reduceLeDiff,ne_eq,Nat.reduceLT,Int.reduceLT,Int.reduceLE,Int.reduceNeg]
  rw [hl]
  simp only [EVT,EVD,↓reduceIte,Nat.reduceEqDiff,reduceCtorEq,Nat.reduceAdd,Nat.reduceLeDiff,ne_eq,Nat.reduceLT,Int.reduceLT,Int.reduceLE,Int.reduceNeg]
theorem k15 (o:Op) (h:OpOk o) (t:Tk) (ht:t = .sh∨t = .c0) (M:AMem):callOp (acall tab) 15 [eOp t o] M=some (.str (opN o),M):=by
 rcases ht with rfl|rfl
 ·exact callOp0 (c15 o h .sh) rfl rfl rfl rfl rfl M
 ·exact callOp0 (c15 o h .c0) rfl rfl rfl rfl rfl M
end Go.Proofs.YtannopdcbocngaaGreatDoor
namespace Go.Proofs.YtannopdcbocngaaGreatDoor
open Go Go.Abs
attribute [local irreducible] exK opsK opK gK forkK kr acall callOp owhen obind
structure Ans where
 err:Int
 ino:Int
 kind:Int
 n:Int
 m:Int
 names:List Bytes
 data:Bytes
 deriving DecidableEq,Inhabited
def eAnsC (t t':Tk) (a:Ans):List AVal:=[.int .i64 a.err,.int .i64 a.ino,.int .i64 a.kind,.int .i64 a.n,.int .i64 a.m,.slice t (a.names.map .str),.slice t' (a.data.map u8V)]
abbrev eAns (t t':Tk) (a:Ans):AVal := .agg (eAnsC t t' a)
def sumL (l:List Bytes):Nat:=(l.map List.length).sum
structure AnsOk (a:Ans):Prop where
 err:okI a.err
 ino:okI a.ino
 kind:okI a.kind
 n:okI a.n
 m:okI a.m
 names:a.names.length≤1000000
 sum:sumL a.names≤1000000
 data:a.data.length≤1000000
def wIno:Bytes:=[105,110,111]
def wKind:Bytes:=[107,105,110,100]
def wNames:Bytes:=[110,97,109,101,115]
def ansFlds (a:Ans):List Fld:=[⟨wIno,a.ino,[]⟩,⟨wKind,a.kind,[]⟩,⟨wN,a.n,[]⟩,⟨wM,a.m,[]⟩]
def errN (e:Int):Bytes:=if e≠0 then 101::114::114::111::114::Lib.itoa e else [111,107]
def namesN (l:List Bytes):Bytes:=if l≠[] then 32::(wNames++61::Lib.join (l.map escN) [44]) else []
def ansN (a:Ans):Bytes:=lineN (lineN (errN a.err) (ansFlds a)++namesN a.names) [⟨wData,0,escN a.data⟩]
theorem errN_le {k:Int} (h:okI k):(errN k).length≤26:=by
 have:=itoa_le h
 unfold errN
 split<;>simp
 omega
theorem ansFlds_ok {a:Ans} (h:AnsOk a):∀f,f∈ansFlds a→FldOk f:=by
 intro f hf
 simp only [ansFlds,List.mem_cons,List.not_mem_nil,or_false] at hf
 rcases hf with rfl|rfl|rfl|rfl
 ·exact ⟨by simp [wIno],h.ino,by simp⟩
 ·exact ⟨by simp [wKind],h.kind,by simp⟩
 ·exact ⟨by simp [wN],h.n,by simp⟩
 ·exact ⟨by simp [wM],h.m,by simp⟩
theorem fldN_le' {f:Fld} (h:okI f.n):(fldN f).length≤f.word.length+f.s.length+23:=by
 have:=itoa_le h
 unfold fldN
 split
 ·simp; omega
 ·split
  ·simp; omega
  ·simp
theorem ansHead_le {a:Ans} (h:AnsOk a):(lineN (errN a.err) (ansFlds a)).length≤127:=by
 have h0:=errN_le h.err
 have h1:=fldN_le' (f:=⟨wIno,a.ino,[]⟩) h.ino
 have h2:=fldN_le' (f:=⟨wKind,a.kind,[]⟩) h.kind
 have h3:=fldN_le' (f:=⟨wN,a.n,[]⟩) h.n
 have h4:=fldN_le' (f:=⟨wM,a.m,[]⟩) h.m
 simp only [wIno,wKind,wN,wM,List.length_cons,List.length_nil] at h1 h2 h3 h4
 simp only [lineN,ansFlds,fldsN,List.flatMap_cons,List.flatMap_nil,List.length_append,List.length_nil,wIno,wKind,wN,wM]
 omega
theorem joinTail_le (sep:Bytes) (hs:sep.length=1):∀l:List Bytes,(Lib.joinTail sep l).length=sumL l+l.length
 | []=>rfl
 |x::r=>by
  have:=joinTail_le sep hs r
  simp only [Lib.joinTail,List.map_cons,List.flatten_cons,List.length_append,sumL,List.sum_cons,List.length_cons] at this ⊢
  omega
theorem join_le (l:List Bytes):(Lib.join l [44]).length≤sumL l+l.length:=by
 cases l with
 |nil=>simp [Lib.join_nil]
 |cons x r =>
  rw [Lib.join_cons,List.length_append,joinTail_le _ rfl]
  simp only [sumL,List.map_cons,List.sum_cons,List.length_cons]
  omega
theorem sumL_esc:∀l:List Bytes,sumL (l.map escN)≤3*sumL l
 | []=>by simp [sumL]
 |x::r=>by
  have:=sumL_esc r
  have:=escN_le x
  simp only [sumL,List.map_cons,List.sum_cons] at *
  omega
theorem sumL_mem:∀ {l:List Bytes} {x:Bytes},x∈l→x.length≤sumL l
 |y::r,x,h=>by
  simp only [sumL,List.map_cons,List.sum_cons]
  rcases List.mem_cons.1 h with rfl|h
  ·omega
  ·have:=sumL_mem h
   simp only [sumL] at this
   omega
theorem namesN_le {a:Ans} (h:AnsOk a):(namesN a.names).length≤4000007:=by
 have:=join_le (a.names.map escN)
 have:=sumL_esc a.names
 have:=h.names; have:=h.sum
 unfold namesN
 split
 ·simp only [List.length_cons,List.length_append,List.length_map,wNames,List.length_nil] at *
  omega
 ·simp
theorem strs_of:∀l:List Bytes,strsOf (l.map .str)=some l
 | []=>rfl
 |x::r=>by
  simp only [List.map_cons,strsOf,strs_of r,obind_some]
theorem c48 (t:Tk) (l:List Bytes) (sep:Bytes) (h1:l.length≤140737488355328) (h2:(Lib.join l sep).length≤140737488355328) (M:AMem):acall tab 48 [.slice t (l.map .str),.str sep] M=some (.str (Lib.join l sep),M):=by
 refine acall_prim (g:=pJoin) rfl ?_
 simp only [pJoin,strs_of,obind_some]
 rw [if_pos ⟨h1,h2⟩]
theorem k48 (l:List Bytes) (sep:Bytes) (h1:l.length≤140737488355328) (h2:(Lib.join l sep).length≤140737488355328) (M:AMem) :
  callOp (acall tab) 48 [.slice .sh (l.map .str),.str sep] M=some (.str (Lib.join l sep),M):=callOp0 (c48 .sh l sep h1 h2 []) rfl rfl rfl rfl rfl M
end Go.Proofs.YtannopdcbocngaaGreatDoor
namespace Go.Proofs.YtannopdcbocngaaGreatDoor
open Go Go.Abs
attribute [local irreducible] exK opsK opK gK forkK kr acall callOp owhen obind
theorem roomO {a b:Nat} (h:a≤1000001) (hb:b≤10000):roomOk a b=True:=by
 simp only [eq_iff_iff,iff_true]
 unfold roomOk
 have:a*b≤1000001*10000:=Nat.mul_le_mul h hb
 omega
theorem widS:∀l:List Bytes,wid (l.map AVal.str) 1=True:=by
 intro l
 simp only [eq_iff_iff,iff_true]
 intro x hx
 obtain ⟨s,_,rfl⟩:=List.mem_map.1 hx
 rfl
theorem backV_t {t:Tk} (ht:t = .sh∨t = .c0) (B:Nat) (M:AMem) (xs:List AVal):AVal.backV B M (.slice t xs) = .slice t xs:=by rcases ht with rfl|rfl<;>rfl
theorem back1_t {t:Tk} (ht:t = .sh∨t = .c0) (B:Nat) (M:AMem) (xs:List AVal):AVal.back1 B M (.slice t xs) = .slice t xs:=by rcases ht with rfl|rfl<;>rfl
theorem loop17 (cs:List AVal) (hcs:∀B M,cs.map (AVal.back1 B M)=cs) (p:Bytes) (l:List Bytes) (hl:l.length≤1000000) (hs:sumL l≤1000000) (C:CallF) (hC:C=acall tab) (t:Tk) (ht:t = .sh∨t = .c0):∀(r pre:List Bytes),l=pre++r→∀(fn:List ARes) (base:Nat) (k:List K),
  exK C fn base (.block 0::k) (.loop [1,4,5,31,32,33] lb17_0) [(1,.ptr 0 0),(4,.str p),(5,.slice (.own 1) ((pre.map escN).map .str)),(31,.slice t (l.map .str)),(32,eI l.length),(33,eI pre.length)] [.cells cs,.tick 1 pre.length] =
  kr C fn base k ⟨.normal,[(1,.ptr 0 0),(4,.str p),(5,.slice (.own 1) ((l.map escN).map .str)),(31,.slice t (l.map .str)),(32,eI l.length),(33,eI l.length),(34,.bool false)],[.cells cs,.tick 1 l.length]⟩
 | [],pre,he,fn,base,k=>by
  subst hC
  have:pre=l:=by simpa using he.symm
  subst this
  rw [exK_loop]
  have hlt:decide ((pre.length:Int)<pre.length)=false:=by simp
  simp only [E17,hlt,EVT,EVD,↓reduceIte,Nat.reduceEqDiff,reduceCtorEq,Nat.reduceAdd,Nat.reduceLeDiff,ne_eq,Nat.reduceLT,Int.reduceLT,Int.reduceLE,Int.reduceNeg]
 |f::r,pre,he,fn,base,k=>by
  subst hC
  have hl':pre.length<l.length:=by rw [he]; simp
  have hlt:decide ((pre.length:Int)<l.length)=true:=by simpa using hl'
  have hix:l[pre.length]?=some f:=by rw [he]; simp
  have hn:(0:Int)≤pre.length:=by omega
  have hw:IntKind.i64.wrap ((pre.length:Int)+1)=((pre++[f]).length:Int):=by rw [List.length_append,wrapS (by omega) (by omega)]; simp
  have hm:f∈l:=by rw [he]; simp
  have hfl:=sumL_mem hm
  have hk:=fun M=>k44 f (by omega) M
  have hr:=roomO (a:=pre.length+1) (b:=16) (by omega) (by omega)
  have ih:=loop17 cs hcs p l hl hs (acall tab) rfl t ht r (pre++[f]) (by simpa using he) fn base k
  simp only [List.length_append,List.length_cons,List.length_nil,Nat.zero_add,List.map_append,List.map_cons,List.map_nil] at ih hw
  rw [exK_loop]
  simp (disch:=omega) only [E17,hlt,hix,hk,hr,EVT,EVD,↓reduceIte,Nat.reduceEqDiff,reduceCtorEq,Nat.reduceAdd,Nat.reduceLeDiff,ne_eq,Nat.reduceLT,Int.reduceLT,Int.reduceLE,Int.reduceNeg]
  simp only [E17,hw,widS,hcs,backV_t ht,EVT,EVD,↓reduceIte,Nat.reduceEqDiff,reduceCtorEq,Nat.reduceAdd,Nat.reduceLeDiff,ne_eq,Nat.reduceLT,Int.reduceLT,Int.reduceLE,Int.reduceNeg]
  exact ih
set_option maxHeartbeats 1000000 in
theorem c17 (a:Ans) (h:AnsOk a) (t t':Tk) (ht:t = .sh∨t = .c0) (ht':t' = .sh∨t' = .c0):acall tab 17 [eAns t t' a] []=some (.str (ansN a),[]):=by
 refine acall_ex rfl rfl rfl ?_
 have i1:=fun M=>k42 a.err h.err M
 have s3:=fun M=>k44 a.data (by have:=h.data; omega) M
 have hb:=bytes_u8 a.data
 have hi:=itoa_le h.err
 have hl:=fun M=>k43 (errN a.err) (by have:=errN_le h.err; omega) (ansFlds a) (ansFlds_ok h) (by simp [ansFlds]) M
 have hl':=fun M=>k43 (lineN (errN a.err) (ansFlds a)++namesN a.names) (by have:=ansHead_le h; have:=namesN_le h; simp; omega) [⟨wData,0,escN a.data⟩] (by
  intro f hf
  have:=escN_le a.data; have:=h.data
  simp only [List.mem_singleton] at hf; subst hf
  exact ⟨by simp [wData],okI_zero,by simp; omega⟩) (by simp) M
 have h0:=fun cs hcs p=>loop17 cs hcs p a.names h.names h.sum (acall tab) rfl t ht a.names [] rfl
 have hj:=k48 (a.names.map escN) [44] (by have:=h.names; simp; omega) (by have:=join_le (a.names.map escN); have:=sumL_esc a.names; have:=h.names; have:=h.sum; simp at *; omega)
 have hx:ansN a=lineN (lineN (errN a.err) (ansFlds a)++namesN a.names) [⟨wData,0,escN a.data⟩]:=rfl
 have hle:=ansHead_le h
 have hnm:=namesN_le h
 generalize ansN a=u at hx ⊢
 rw [←hx] at hl'
 generalize hv:lineN (errN a.err) (ansFlds a)=v at hl hl' hle
 simp only [ansFlds,List.map_cons,List.map_nil,eFld,eFldC,wIno,wKind,wN,wM,wData] at hl hl'
 simp (disch:=omega) only [fn17,E17,eAnsC,i1,s3,hb,EVT,EVD,↓reduceIte,Nat.reduceEqDiff,reduceCtorEq,Nat.reduceAdd,Nat.reduceLeDiff,ne_eq,Nat.reduceLT,Int.reduceLT,Int.reduceLE,Int.reduceNeg]
 have e0:errN a.err=if (a.err != 0)=true then 101::114::114::111::114::Lib.itoa a.err else [111,107]:=by
  unfold errN
  by_cases hc:a.err=0<;>simp [hc]
 have hcs:∀B M,(eAnsC t t' a).map (AVal.back1 B M)=eAnsC t t' a:=by
  intro B M
  simp only [eAnsC,List.map_cons,List.map_nil,back1_t ht,back1_t ht',EVT,EVD,↓reduceIte,Nat.reduceEqDiff,reduceCtorEq,Nat.reduceAdd,Nat.reduceLeDiff,ne_eq,Nat.reduceLT,Int.reduceLT,Int.reduceLE,Int.reduceNeg]
 unfold eAnsC at hcs
 refine fork_split (fun hc=>?_) (fun hc=>?_)
 all_goals
  rw [hc] at e0
  simp only [↓reduceIte,Bool.false_eq_true] at e0
  rw [e0] at hl
  simp (config:={maxSteps:=1000000}) (disch:=omega) only [E17,hc,i1,EVT,EVD,↓reduceIte,Nat.reduceEqDiff,reduceCtorEq,Nat.reduceAdd,Nat.reduceLeDiff,ne_eq,Nat.reduceLT,Int.reduceLT,Int.reduceLE,Int.reduceNeg]
  rw [hl]
  simp only [E17,EVT,EVD,↓reduceIte,Nat.reduceEqDiff,reduceCtorEq,Nat.reduceAdd,Nat.reduceLeDiff,ne_eq,Nat.reduceLT,Int.reduceLT,Int.reduceLE,Int.reduceNeg]
  refine (h0 _ hcs _ _ _ _).trans ?_
  simp only [E17,List.length_map,EVT,EVD,↓reduceIte,Nat.reduceEqDiff,reduceCtorEq,Nat.reduceAdd,Nat.reduceLeDiff,ne_eq,Nat.reduceLT,Int.reduceLT,Int.reduceLE,Int.reduceNeg]
  refine fork_split (fun hd=>?_) (fun hd=>?_)
  ·have e2:namesN a.names=32::110::97::109::101::115::61::Lib.join (a.names.map escN) [44]:=by
    rw [namesN,if_pos (by intro e; rw [e] at hd; simp at hd)]; rfl
   rw [e2] at hl' hnm
   simp only [List.length_cons] at hnm
   simp (disch:=omega) only [E17,hd,hj,s3,bytes_u8,EVT,EVD,↓reduceIte,Nat.reduceEqDiff,reduceCtorEq,Nat.reduceAdd,Nat.reduceLeDiff,ne_eq,Nat.reduceLT,Int.reduceLT,Int.reduceLE,Int.reduceNeg]
   rw [hl']
   simp only [E17,EVT,EVD,↓reduceIte,Nat.reduceEqDiff,reduceCtorEq,Nat.reduceAdd,Nat.reduceLeDiff,ne_eq,Nat.reduceLT,Int.reduceLT,Int.reduceLE,Int.reduceNeg]
  ·have e2:namesN a.names=[]:=by
    rw [namesN,if_neg]
    intro e
    have:=List.length_pos_iff.2 e
    simp at hd e; contradiction
   rw [e2,List.append_nil] at hl'
   simp only [E17,hd,hj,s3,bytes_u8,EVT,EVD,↓reduceIte,Nat.reduceEqDiff,reduceCtorEq,Nat.reduceAdd,Nat.reduceLeDiff,ne_eq,Nat.reduceLT,Int.reduceLT,Int.reduceLE,Int.reduceNeg]
   rw [hl']
   simp only [E17,EVT,EVD,↓reduceIte,Nat.reduceEqDiff,reduceCtorEq,Nat.reduceAdd,Nat.reduceLeDiff,ne_eq,Nat.reduceLT,Int.reduceLT,Int.reduceLE,Int.reduceNeg]
theorem k17 (a:Ans) (h:AnsOk a) (t t':Tk) (ht:t = .sh∨t = .c0) (ht':t' = .sh∨t' = .c0) (M:AMem):callOp (acall tab) 17 [eAns t t' a] M=some (.str (ansN a),M):=by
 have:=c17 a h t t' ht ht'
 rcases ht with rfl|rfl<;>rcases ht' with rfl|rfl<;>exact callOp0 this rfl rfl rfl rfl rfl M
end Go.Proofs.YtannopdcbocngaaGreatDoor
namespace Go.Proofs.YtannopdcbocngaaGreatDoor
open Go Go.Abs
attribute [local irreducible] exK opsK opK gK forkK kr acall callOp owhen obind
def rawI (a b:UInt8):Int:=IntKind.u8.wrap (ior .i64 (IntKind.i64.wrap (Lib.indexByte [48,49,50,51,52,53,54,55,56,57,97,98,99,100,101,102] a*2 ^ min (Int.toNat 4) IntKind.i64.bits)) (iand .i64 (Lib.indexByte [48,49,50,51,52,53,54,55,56,57,97,98,99,100,101,102] b) 15))
def rawC (a b:UInt8):UInt8:=(rawI a b).toNat.toUInt8
theorem wrap_u8 (z:Int):0≤IntKind.u8.wrap z∧IntKind.u8.wrap z<256:=by
 unfold IntKind.wrap
 simp only [show IntKind.u8.bits=8 from rfl,show IntKind.u8.signed=false from rfl,Bool.false_and,Bool.false_eq_true,if_false]
 have h1:=Int.emod_nonneg z (show (2 ^ 8:Int)≠0 by decide)
 have h2:=Int.emod_lt_of_pos z (show (0:Int)<2 ^ 8 by decide)
 exact ⟨h1,h2⟩
theorem raw_eq (a b:UInt8):rawI a b=((rawC a b).toNat:Int):=by
 have h:=wrap_u8 (ior .i64 (IntKind.i64.wrap (Lib.indexByte [48,49,50,51,52,53,54,55,56,57,97,98,99,100,101,102] a*2 ^ min (Int.toNat 4) IntKind.i64.bits)) (iand .i64 (Lib.indexByte [48,49,50,51,52,53,54,55,56,57,97,98,99,100,101,102] b) 15))
 unfold rawC
 change 0≤rawI a b∧rawI a b<256 at h
 generalize rawI a b=z at h
 rw [Nat.toUInt8_eq,UInt8.toNat_ofNat']
 omega
def rawN:Bytes→Bytes
 |c::a::b::r=>if c=37 then rawC a b::rawN r else c::rawN (a::b::r)
 |c::r=>c::rawN r
 | []=>[]
theorem widU:∀l:Bytes,wid (l.map u8V) 1=True:=by
 intro l
 simp only [eq_iff_iff,iff_true]
 intro x hx
 obtain ⟨s,_,rfl⟩:=List.mem_map.1 hx
 rfl
theorem loop65 (s:Bytes) (hs:s.length≤1000000) (C:CallF) (hC:C=acall tab) (fn:List ARes) (base:Nat) (k:List K):∀(n:Nat) (r pre out:Bytes),r.length≤n→s=pre++r→out.length≤pre.length→∀u,out++rawN r=u →
  exK C fn base (.block 0::k) (.loop [0,3,4] lb65_0) [(0,.str s),(3,.slice (.own 0) (out.map u8V)),(4,eI pre.length)] [.tick 1 out.length] =
  kr C fn base k ⟨.normal,[(0,.str s),(3,.slice (.own 0) (u.map u8V)),(4,eI s.length),(9,.bool false)],[.tick 1 u.length]⟩
 |n,[],pre,out,hn,he,ho,u,hu=>by
  subst hC
  have:pre=s:=by simpa using he.symm
  subst this
  rw [exK_loop]
  have hlt:decide ((pre.length:Int)<pre.length)=false:=by simp
  rw [rawN,List.append_nil] at hu; subst hu
  simp only [E65,hlt,EVT,EVD,↓reduceIte,Nat.reduceEqDiff,reduceCtorEq,Nat.reduceAdd,Nat.reduceLeDiff,ne_eq,Nat.reduceLT,Int.reduceLT,Int.reduceLE,Int.reduceNeg]
 |0,c::r,pre,out,hn,he,ho,u,hu=>by simp at hn
 |n+1,c::r,pre,out,hn,he,ho,u,hu=>by
  subst hC
  have hl:pre.length<s.length:=by rw [he]; simp
  have hlt:decide ((pre.length:Int)<s.length)=true:=by simpa using hl
  have hix:s[pre.length]?=some c:=by rw [he]; simp
  have hp:(0:Int)≤pre.length:=by omega
  have hw:IntKind.i64.wrap ((pre.length:Int)+1)=((pre.length+1:Nat):Int):=by rw [wrapS (by omega) (by omega)]; simp
  have hw2:IntKind.i64.wrap ((pre.length:Int)+2)=((pre.length+2:Nat):Int):=by rw [wrapS (by omega) (by omega)]; simp
  have hw3:IntKind.i64.wrap (((pre.length+2:Nat):Int)+1)=((pre.length+3:Nat):Int):=by rw [wrapS (by omega) (by omega)]; omega
  have hr:=roomO (a:=out.length+1) (b:=1) (by omega) (by omega)
  rw [exK_loop]
  simp (disch:=omega) only [E65,hlt,hix,hw,hw2,hr,EVT,EVD,↓reduceIte,Nat.reduceEqDiff,reduceCtorEq,Nat.reduceAdd,Nat.reduceLeDiff,ne_eq,Nat.reduceLT,Int.reduceLT,Int.reduceLE,Int.reduceNeg]
  refine guard_split (fun hb=>?_) (fun hb=>?_)
  ·have hc:c=37:=by
    have:c.toNat=37:=by simp at hb; omega
    exact UInt8.toNat_inj.1 this
   simp only [E65,hb,hw,hw2,EVT,EVD,↓reduceIte,Nat.reduceEqDiff,reduceCtorEq,Nat.reduceAdd,Nat.reduceLeDiff,ne_eq,Nat.reduceLT,Int.reduceLT,Int.reduceLE,Int.reduceNeg]
   refine fork_split (fun hd=>?_) (fun hd=>?_)
   ·have hd':pre.length+2<s.length:=by simp at hd; omega
    match r,he,hn with
    |x::y::r',he,hn =>
     have hi1:s[pre.length+1]?=some x:=by rw [he]; simp
     have hi2:s[pre.length+2]?=some y:=by rw [he]; simp
     have hr2:rawN (c::x::y::r')=rawC x y::rawN r':=by rw [rawN,if_pos hc]
     have ih:=loop65 s hs (acall tab) rfl fn base k n r' (pre++[c,x,y]) (out++[rawC x y]) (by simp at hn ⊢; omega) (by simpa using he) (by simp; omega) u (by rw [←hu]; simp [hr2])
     simp only [List.length_append,List.length_cons,List.length_nil,Nat.zero_add,Nat.reduceAdd,List.map_append,List.map_cons,List.map_nil] at ih
     simp only [E65,hd,hw,hw2,hw3,hi1,hi2,k98,EVT,EVD,↓reduceIte,Nat.reduceEqDiff,reduceCtorEq,Nat.reduceAdd,Nat.reduceLeDiff,ne_eq,Nat.reduceLT,Int.reduceLT,Int.reduceLE,Int.reduceNeg]
     rw [show IntKind.u8.wrap (ior .i64 (IntKind.i64.wrap (Lib.indexByte [48,49,50,51,52,53,54,55,56,57,97,98,99,100,101,102] x*2 ^ min (Int.toNat 4) IntKind.i64.bits)) (iand .i64 (Lib.indexByte [48,49,50,51,52,53,54,55,56,57,97,98,99,100,101,102] y) 15))=((rawC x y).toNat:Int) from raw_eq x y]
     simp only [E65,hr,widU,hw3,EVT,EVD,↓reduceIte,Nat.reduceEqDiff,reduceCtorEq,Nat.reduceAdd,Nat.reduceLeDiff,ne_eq,Nat.reduceLT,Int.reduceLT,Int.reduceLE,Int.reduceNeg]
     exact ih
    | [],he,hn=>rw [he] at hd'; simp at hd'
    | [x],he,hn=>rw [he] at hd'; simp at hd'
   ·have hr2:rawN (c::r)=c::rawN r:=by
     match r,he with
     |x::y::r',he =>
      have:¬(pre.length+2<s.length):=by simp at hd; omega
      rw [he] at this; simp at this
     | [],_=>rfl
     | [x],_=>rfl
    have ih:=loop65 s hs (acall tab) rfl fn base k n r (pre++[c]) (out++[c]) (by simp at hn ⊢; omega) (by simpa using he) (by simp; omega) u (by rw [←hu]; simp [hr2])
    simp only [List.length_append,List.length_cons,List.length_nil,Nat.zero_add,Nat.reduceAdd,List.map_append,List.map_cons,List.map_nil] at ih
    simp only [E65,hd,hw,hr,widU,EVT,EVD,↓reduceIte,Nat.reduceEqDiff,reduceCtorEq,Nat.reduceAdd,Nat.reduceLeDiff,ne_eq,Nat.reduceLT,Int.reduceLT,Int.reduceLE,Int.reduceNeg]
    exact ih
  ·have hr2:rawN (c::r)=c::rawN r:=by
    have:¬c=37:=by intro e; subst e; simp at hb
    match r with
    |x::y::r'=>rw [rawN,if_neg this]
    | []=>rfl
    | [x]=>rfl
   have ih:=loop65 s hs (acall tab) rfl fn base k n r (pre++[c]) (out++[c]) (by simp at hn ⊢; omega) (by simpa using he) (by simp; omega) u (by rw [←hu]; simp [hr2])
   simp only [List.length_append,List.length_cons,List.length_nil,Nat.zero_add,Nat.reduceAdd,List.map_append,List.map_cons,List.map_nil] at ih
   simp only [E65,hb,hw,hr,widU,EVT,EVD,↓reduceIte,Nat.reduceEqDiff,reduceCtorEq,Nat.reduceAdd,Nat.reduceLeDiff,ne_eq,Nat.reduceLT,Int.reduceLT,Int.reduceLE,Int.reduceNeg]
   exact ih
end Go.Proofs.YtannopdcbocngaaGreatDoor
namespace Go.Proofs.YtannopdcbocngaaGreatDoor
open Go Go.Abs
attribute [local irreducible] exK opsK opK gK forkK kr acall callOp owhen obind
theorem rawN_le:∀(n:Nat) (s:Bytes),s.length≤n→(rawN s).length≤s.length
 |n,[],h=>Nat.le_refl _
 |n,[c],h=>Nat.le_refl _
 |n,[c,a],h=>Nat.le_refl _
 |0,c::a::b::r,h=>by simp at h
 |n+1,c::a::b::r,h=>by
  rw [rawN]
  split
  ·have:=rawN_le n r (by simp at h; omega)
   simp; omega
  ·have:=rawN_le n (a::b::r) (by simp at h ⊢; omega)
   simp at this ⊢; omega
theorem c65 (s:Bytes) (hs:s.length≤1000000):acall tab 65 [.str s] []=some (.str (rawN s),[]):=by
 refine acall_ex rfl rfl rfl ?_
 have h0:=fun fn base k=>loop65 s hs (acall tab) rfl fn base k s.length s [] [] (Nat.le_refl _) rfl (Nat.le_refl _) _ rfl
 simp only [fn65,E65,EVT,EVD,↓reduceIte,Nat.reduceEqDiff,reduceCtorEq,Nat.reduceAdd,Nat.reduceLeDiff,ne_eq,Nat.reduceLT,Int.reduceLT,Int.reduceLE,Int.reduceNeg]
 refine (h0 _ _ _).trans ?_
 simp only [E65,bytes_u8,List.nil_append,EVT,EVD,↓reduceIte,Nat.reduceEqDiff,reduceCtorEq,Nat.reduceAdd,Nat.reduceLeDiff,ne_eq,Nat.reduceLT,Int.reduceLT,Int.reduceLE,Int.reduceNeg]
theorem k65 (s:Bytes) (hs:s.length≤1000000) (M:AMem):callOp (acall tab) 65 [.str s] M=some (.str (rawN s),M):=callOp0 (c65 s hs) rfl rfl rfl rfl rfl M
def zFld:Fld:=⟨[],0,[]⟩
def getN (w:Bytes) (l:List Fld):Fld×Bool:=match l.find? (fun f=>f.word==w) with
 |some f=>(f,true)
 |none=>(zFld,false)
theorem getN_cons (w:Bytes) (f:Fld) (l:List Fld):getN w (f::l)=if f.word=w then (f,true) else getN w l:=by
 unfold getN
 by_cases h:f.word=w
 ·simp [h]
 ·rw [if_neg h,List.find?_cons_of_neg (by simpa using h)]
theorem loop63 (a w:Bytes) (t:Tk) (ht:t = .sh∨t = .c0) (l:List Fld) (hl:l.length≤10000000) (C:CallF) (hC:C=acall tab):∀(r pre:List Fld),l=pre++r →
  exK C [.cellA 4 3,.tmp 5] 0 [.block 0,.seq q63_6] (.loop [1,4,9,10,11] lb63_0) [(1,.str w),(4,.ptr 1 0),(9,.slice t (l.map eFld)),(10,eI l.length),(11,eI pre.length)] [.cells [.str a,.slice t (l.map eFld)],.cells (eFldC zFld)] =
  some (.tuple [eFld (getN w r).1,.bool (getN w r).2],[])
 | [],pre,he=>by
  subst hC
  have:pre=l:=by simpa using he.symm
  subst this
  rw [exK_loop]
  have hlt:decide ((pre.length:Int)<pre.length)=false:=by simp
  simp only [E63,hlt,eFldC,zFld,EVT,EVD,↓reduceIte,Nat.reduceEqDiff,reduceCtorEq,Nat.reduceAdd,Nat.reduceLeDiff,ne_eq,Nat.reduceLT,Int.reduceLT,Int.reduceLE,Int.reduceNeg]
  rfl
 |f::r,pre,he=>by
  subst hC
  have hl':pre.length<l.length:=by rw [he]; simp
  have hlt:decide ((pre.length:Int)<l.length)=true:=by simpa using hl'
  have hix:l[pre.length]?=some f:=by rw [he]; simp
  have hn:(0:Int)≤pre.length:=by omega
  have hw:IntKind.i64.wrap ((pre.length:Int)+1)=((pre++[f]).length:Int):=by rw [List.length_append,wrapS (by omega) (by omega)]; simp
  have ih:=loop63 a w t ht l hl (acall tab) rfl r (pre++[f]) (by simpa using he)
  simp only [List.length_append,List.length_cons,List.length_nil,Nat.zero_add,eFldC,zFld] at ih hw
  rw [getN_cons]
  rw [exK_loop]
  simp only [E63,hlt,hix,eFldC,zFld,EVT,EVD,↓reduceIte,Nat.reduceEqDiff,reduceCtorEq,Nat.reduceAdd,Nat.reduceLeDiff,ne_eq,Nat.reduceLT,Int.reduceLT,Int.reduceLE,Int.reduceNeg]
  refine fork_split (fun hb=>?_) (fun hb=>?_)
  ·rw [if_pos (by simpa using hb)]
   simp only [E63,EVT,EVD,↓reduceIte,Nat.reduceEqDiff,reduceCtorEq,Nat.reduceAdd,Nat.reduceLeDiff,ne_eq,Nat.reduceLT,Int.reduceLT,Int.reduceLE,Int.reduceNeg]
   rfl
  ·rw [if_neg (by simpa using hb)]
   simp only [E63,hw,backV_t ht,back1_t ht,EVT,EVD,↓reduceIte,Nat.reduceEqDiff,reduceCtorEq,Nat.reduceAdd,Nat.reduceLeDiff,ne_eq,Nat.reduceLT,Int.reduceLT,Int.reduceLE,Int.reduceNeg]
   exact ih
abbrev eRead (t:Tk) (a:Bytes) (l:List Fld):AVal := .agg [.str a,.slice t (l.map eFld)]
theorem c63 (a w:Bytes) (t:Tk) (ht:t = .sh∨t = .c0) (l:List Fld) (hl:l.length≤10000000):acall tab 63 [eRead t a l,.str w] []=some (.tuple [eFld (getN w l).1,.bool (getN w l).2],[]):=by
 refine acall_ex rfl rfl rfl ?_
 have h0:=loop63 a w t ht l hl (acall tab) rfl l [] rfl
 simp only [eFldC,zFld] at h0
 simp only [fn63,E63,EVT,EVD,↓reduceIte,Nat.reduceEqDiff,reduceCtorEq,Nat.reduceAdd,Nat.reduceLeDiff,ne_eq,Nat.reduceLT,Int.reduceLT,Int.reduceLE,Int.reduceNeg]
 exact h0
theorem k63 (a w:Bytes) (t:Tk) (ht:t = .sh∨t = .c0) (l:List Fld) (hl:l.length≤10000000) (M:AMem):callOp (acall tab) 63 [eRead t a l,.str w] M=some (.tuple [eFld (getN w l).1,.bool (getN w l).2],M):=by
 have:=c63 a w t ht l hl
 rcases ht with rfl|rfl<;>exact callOp0 this rfl rfl rfl rfl rfl M
theorem c56 (a w:Bytes) (t:Tk) (ht:t = .sh∨t = .c0) (l:List Fld) (hl:l.length≤10000000):acall tab 56 [eRead t a l,.str w] []=some (.int .i64 (getN w l).1.n,[]):=by
 refine acall_ex rfl rfl rfl ?_
 have h0:=fun M=>k63 a w .sh (.inl rfl) l hl M
 have hsh:(AVal.slice t (l.map eFld)).shut = .slice .sh (l.map eFld):=by rcases ht with rfl|rfl<;>rfl
 simp only [eRead,eFld,eFldC] at h0
 simp only [fn56,E56,h0,hsh,EVT,EVD,↓reduceIte,Nat.reduceEqDiff,reduceCtorEq,Nat.reduceAdd,Nat.reduceLeDiff,ne_eq,Nat.reduceLT,Int.reduceLT,Int.reduceLE,Int.reduceNeg]
theorem c57 (a w:Bytes) (t:Tk) (ht:t = .sh∨t = .c0) (l:List Fld) (hl:l.length≤10000000) (hs:(getN w l).1.s.length≤1000000):acall tab 57 [eRead t a l,.str w] []=some (.str (rawN (getN w l).1.s),[]):=by
 refine acall_ex rfl rfl rfl ?_
 have h0:=fun M=>k63 a w .sh (.inl rfl) l hl M
 have hsh:(AVal.slice t (l.map eFld)).shut = .slice .sh (l.map eFld):=by rcases ht with rfl|rfl<;>rfl
 have h1:=fun M=>k65 (getN w l).1.s hs M
 simp only [eRead,eFld,eFldC] at h0
 simp only [fn57,E57,h0,h1,hsh,EVT,EVD,↓reduceIte,Nat.reduceEqDiff,reduceCtorEq,Nat.reduceAdd,Nat.reduceLeDiff,ne_eq,Nat.reduceLT,Int.reduceLT,Int.reduceLE,Int.reduceNeg]
theorem c135 (s p:Bytes):acall tab 135 [.str s,.str p] []=some (.bool (decide (p.length≤s.length)&&(s.take p.length==p)),[]):=by
 refine acall_ex rfl rfl rfl ?_
 simp only [fn135,E135,EVT,EVD,↓reduceIte,Nat.reduceEqDiff,reduceCtorEq,Nat.reduceAdd,Nat.reduceLeDiff,ne_eq,Nat.reduceLT,Int.reduceLT,Int.reduceLE,Int.reduceNeg]
 refine guard_split (fun hb=>?_) (fun hb=>?_)
 ·have h1:p.length≤s.length:=by simp at hb; omega
  have h2:((p.length:Int)≤s.length∧((0:Nat):Int)≤p.length)=True:=by simp only [eq_iff_iff,iff_true]; omega
  simp only [hb,h2,EVT,EVD,↓reduceIte,Nat.reduceEqDiff,reduceCtorEq,Nat.reduceAdd,Nat.reduceLeDiff,ne_eq,Nat.reduceLT,Int.reduceLT,Int.reduceLE,Int.reduceNeg]
  simp [h1]
 ·have h1:¬p.length≤s.length:=by simp at hb; omega
  simp only [hb,EVT,EVD,↓reduceIte,Nat.reduceEqDiff,reduceCtorEq,Nat.reduceAdd,Nat.reduceLeDiff,ne_eq,Nat.reduceLT,Int.reduceLT,Int.reduceLE,Int.reduceNeg]
  simp [h1]
theorem k135 (s p:Bytes) (M:AMem):callOp (acall tab) 135 [.str s,.str p] M=some (.bool (decide (p.length≤s.length)&&(s.take p.length==p)),M):=callOp0 (c135 s p) rfl rfl rfl rfl rfl M
def trimN (s p:Bytes):Bytes:=if (decide (p.length≤s.length)&&(s.take p.length==p))=true then s.drop p.length else s
theorem trimN_le (s p:Bytes):(trimN s p).length≤s.length:=by
 unfold trimN
 split<;>simp
theorem c96 (s p:Bytes):acall tab 96 [.str s,.str p] []=some (.str (trimN s p),[]):=by
 refine acall_ex rfl rfl rfl ?_
 simp only [fn96,E96,k135,EVT,EVD,↓reduceIte,Nat.reduceEqDiff,reduceCtorEq,Nat.reduceAdd,Nat.reduceLeDiff,ne_eq,Nat.reduceLT,Int.reduceLT,Int.reduceLE,Int.reduceNeg]
 refine fork_split (fun hb=>?_) (fun hb=>?_)
 ·rw [trimN,if_pos hb]
  have h1:p.length≤s.length:=by simp at hb; omega
  have h2:((s.length:Int)≤s.length∧(p.length:Int)≤s.length)=True:=by simp only [eq_iff_iff,iff_true]; omega
  simp only [E96,hb,h2,List.take_length,EVT,EVD,↓reduceIte,Nat.reduceEqDiff,reduceCtorEq,Nat.reduceAdd,Nat.reduceLeDiff,ne_eq,Nat.reduceLT,Int.reduceLT,Int.reduceLE,Int.reduceNeg]
 ·rw [trimN,if_neg (by rw [hb]; decide)]
  simp only [E96,hb,EVT,EVD,↓reduceIte,Nat.reduceEqDiff,reduceCtorEq,Nat.reduceAdd,Nat.reduceLeDiff,ne_eq,Nat.reduceLT,Int.reduceLT,Int.reduceLE,Int.reduceNeg]
theorem k96 (s p:Bytes) (M:AMem):callOp (acall tab) 96 [.str s,.str p] M=some (.str (trimN s p),M):=callOp0 (c96 s p) rfl rfl rfl rfl rfl M
theorem c59 (s p:Bytes):acall tab 59 [.str s,.str p] []=some (.str (trimN s p),[]):=by
 refine acall_ex rfl rfl rfl ?_
 simp only [fn59,E59,k96,EVT,EVD,↓reduceIte,Nat.reduceEqDiff,reduceCtorEq,Nat.reduceAdd,Nat.reduceLeDiff,ne_eq,Nat.reduceLT,Int.reduceLT,Int.reduceLE,Int.reduceNeg]
theorem k59 (s p:Bytes) (M:AMem):callOp (acall tab) 59 [.str s,.str p] M=some (.str (trimN s p),M):=callOp0 (c59 s p) rfl rfl rfl rfl rfl M
end Go.Proofs.YtannopdcbocngaaGreatDoor
namespace Go.Proofs.YtannopdcbocngaaGreatDoor
open Go Go.Abs
attribute [local irreducible] exK opsK opK gK forkK kr acall callOp owhen obind
theorem atoiN_ok (s:Bytes):okI (atoiN s):=by
 unfold atoiN okI
 split
 ·rename_i v h
  exact Lib.atoiAll_bounds h
 ·exact Lib.atoiSat_bounds s
 ·omega
theorem c58 (s:Bytes) (hs:s.length≤281474976710656):acall tab 58 [.str s] []=some (.tuple [.int .i64 (atoiN s),.any],[]):=by
 refine acall_prim (g:=pAtoi) rfl ?_
 simp only [pAtoi]
 rw [if_pos hs]
theorem k58 (s:Bytes) (hs:s.length≤281474976710656) (M:AMem):callOp (acall tab) 58 [.str s] M=some (.tuple [.int .i64 (atoiN s),.any],M):=callOp0 (c58 s hs) rfl rfl rfl rfl rfl M
theorem c93 (s p:Bytes) (hs:s.length<4294967281):acall tab 93 [.str s,.str p] []=some (.tuple [.str (Lib.cut s p).1,.str (Lib.cut s p).2.1,.bool (Lib.cut s p).2.2],[]):=by
 refine acall_prim (g:=pCut) rfl ?_
 simp only [pCut]
 rw [if_pos hs]
theorem k93 (s p:Bytes) (hs:s.length<4294967281) (M:AMem):callOp (acall tab) 93 [.str s,.str p] M=some (.tuple [.str (Lib.cut s p).1,.str (Lib.cut s p).2.1,.bool (Lib.cut s p).2.2],M):=callOp0 (c93 s p hs) rfl rfl rfl rfl rfl M
theorem c64 (s p:Bytes) (hs:s.length<4294967281) (hp:1≤p.length):acall tab 64 [.str s,.str p] []=some (.slice .sh ((splitS s p).map .str),[]):=by
 refine acall_prim (g:=pSplitS) rfl ?_
 simp only [pSplitS]
 rw [if_pos ⟨hs,hp⟩]
theorem k64 (s p:Bytes) (hs:s.length<4294967281) (hp:1≤p.length) (M:AMem):callOp (acall tab) 64 [.str s,.str p] M=some (.slice .sh ((splitS s p).map .str),M):=callOp0 (c64 s p hs hp) rfl rfl rfl rfl rfl M
def fldR (x:Bytes):Fld:=⟨(Lib.cut x [61]).1,atoiN (Lib.cut x [61]).2.1,(Lib.cut x [61]).2.1⟩
theorem splitS_one (s:Bytes) (c:UInt8):splitS s [c]=cutL c s:=by
 have h:=Lib.splitB_data (bs [c]) 0 (Lib.countB (bs s) (bs [c])) (bs s)
 unfold splitS
 rw [h,←splitK_cutL]
 have e1:(bs [c]).data.toList=[c]:=rfl
 have e2:(bs s).data.toList=s:=by simp [bs]
 unfold Lib.countB
 rw [e1,e2,Lib.count_one]
theorem loop55 (ws:List Bytes) (hl:ws.length≤1000000) (hs:∀x,x∈ws→x.length≤1000000) (first:Bytes) (C:CallF) (hC:C=acall tab):∀(r pre:List Bytes),ws=pre++r→∀(fn:List ARes) (base:Nat) (k:List K),
  exK C fn base (.block 0::k) (.loop [2,4,19,20,21] lb55_0) [(2,.ptr 0 0),(4,.ptr 1 0),(19,.slice .sh (ws.map .str)),(20,eI ws.length),(21,eI pre.length)]
   [.cells [.str [],.slice .c0 []],.cells [.str first,.slice (.own 2) ((pre.map fldR).map eFld)],.tick 3 pre.length] =
  kr C fn base k ⟨.normal,[(2,.ptr 0 0),(4,.ptr 1 0),(19,.slice .sh (ws.map .str)),(20,eI ws.length),(21,eI ws.length),(22,.bool false)],
   [.cells [.str [],.slice .c0 []],.cells [.str first,.slice (.own 2) ((ws.map fldR).map eFld)],.tick 3 ws.length]⟩
 | [],pre,he,fn,base,k=>by
  subst hC
  have:pre=ws:=by simpa using he.symm
  subst this
  rw [exK_loop]
  have hlt:decide ((pre.length:Int)<pre.length)=false:=by simp
  simp only [E55,hlt,EVT,EVD,↓reduceIte,Nat.reduceEqDiff,reduceCtorEq,Nat.reduceAdd,Nat.reduceLeDiff,ne_eq,Nat.reduceLT,Int.reduceLT,Int.reduceLE,Int.reduceNeg]
 |f::r,pre,he,fn,base,k=>by
  subst hC
  have hl':pre.length<ws.length:=by rw [he]; simp
  have hlt:decide ((pre.length:Int)<ws.length)=true:=by simpa using hl'
  have hix:ws[pre.length]?=some f:=by rw [he]; simp
  have hn:(0:Int)≤pre.length:=by omega
  have hw:IntKind.i64.wrap ((pre.length:Int)+1)=((pre++[f]).length:Int):=by rw [List.length_append,wrapS (by omega) (by omega)]; simp
  have hf:=hs f (by rw [he]; simp)
  have hc:=cut_le f [61]
  have h1:=fun M=>k93 f [61] (by omega) M
  have h2:=fun M=>k58 (Lib.cut f [61]).2.1 (by omega) M
  have hr:=roomO (a:=pre.length+1) (b:=40) (by omega) (by omega)
  have hwd:wid (List.map eFld (List.map fldR pre)) 3=True:=by
   simp only [eq_iff_iff,iff_true]
   intro x hx
   obtain ⟨y,_,rfl⟩:=List.mem_map.1 hx
   rfl
  have ih:=loop55 ws hl hs first (acall tab) rfl r (pre++[f]) (by simpa using he) fn base k
  simp only [List.length_append,List.length_cons,List.length_nil,Nat.zero_add,List.map_append,List.map_cons,List.map_nil] at ih hw
  rw [exK_loop]
  simp only [E55,hlt,hix,h1,h2,hr,hwd,hw,EVT,EVD,↓reduceIte,Nat.reduceEqDiff,reduceCtorEq,Nat.reduceAdd,Nat.reduceLeDiff,ne_eq,Nat.reduceLT,Int.reduceLT,Int.reduceLE,Int.reduceNeg]
  exact ih
def cutF (s:Bytes):Bytes:=(cutL 32 s).headD []
def cutR (s:Bytes):List Fld:=(cutL 32 s).tail.map fldR
theorem c55 (s:Bytes) (hs:s.length≤900000):acall tab 55 [.str s] []=some (eRead .sh (cutF s) (cutR s),[]):=by
 refine acall_ex rfl rfl rfl ?_
 have h1:=fun M=>k64 s [32] (by omega) (by simp) M
 rw [splitS_one,cutL_split] at h1
 have hmem:∀x,x∈(cutL 32 s).tail→x.length≤1000000:=fun x hx=>by
  have:=cutL_mem 32 s x (List.mem_of_mem_tail hx); omega
 have hlen:(cutL 32 s).tail.length≤1000000:=by
  have:=cutL_len 32 s
  simp; omega
 unfold cutF cutR
 generalize (cutL 32 s).headD []=a at h1 ⊢
 generalize (cutL 32 s).tail=ws at h1 hlen hmem ⊢
 have h0:=loop55 ws hlen hmem a (acall tab) rfl ws [] rfl
 simp only [List.map_cons] at h1
 have ht:(0:Int).toNat=0:=rfl
 have hw:wid (AVal.str a::List.map AVal.str ws) 1=True:=widS (a::ws)
 have hb:(((ws.length+1:Nat):Int)≤((ws.length+1:Nat):Int)∧(1:Int)≤((ws.length+1:Nat):Int))=True:=by simp only [eq_iff_iff,iff_true]; omega
 have hd:List.drop (Int.toNat 1) (AVal.str a::List.take ws.length (List.map AVal.str ws))=ws.map .str:=by
  rw [show Int.toNat 1=1 from rfl,List.drop_succ_cons,List.drop_zero]
  exact List.take_of_length_le (by simp)
 simp only [fn55,E55,h1,ht,hw,hb,hd,List.getElem?_cons_zero,EVT,EVD,↓reduceIte,Nat.reduceEqDiff,reduceCtorEq,Nat.reduceAdd,Nat.reduceLeDiff,ne_eq,Nat.reduceLT,Int.reduceLT,Int.reduceLE,Int.reduceNeg]
 refine (h0 _ _ _).trans ?_
 simp only [E55,EVT,EVD,↓reduceIte,Nat.reduceEqDiff,reduceCtorEq,Nat.reduceAdd,Nat.reduceLeDiff,ne_eq,Nat.reduceLT,Int.reduceLT,Int.reduceLE,Int.reduceNeg]
theorem k55 (s:Bytes) (hs:s.length≤900000) (M:AMem):callOp (acall tab) 55 [.str s] M=some (eRead .sh (cutF s) (cutR s),M):=callOp0 (c55 s hs) rfl rfl rfl rfl rfl M
end Go.Proofs.YtannopdcbocngaaGreatDoor
namespace Go.Proofs.YtannopdcbocngaaGreatDoor
open Go Go.Abs
attribute [local irreducible] exK opsK opK gK forkK kr acall callOp owhen obind
def kindF (a:Bytes):List Bytes→Nat→Int→Int
 | [],_,k=>k
 |w::r,i,k=>kindF a r (i+1) (if w=a∧0<i then (i:Int) else k)
theorem kindF_ok (a:Bytes):∀(l:List Bytes) (i:Nat) (k:Int),i+l.length≤1000→okI k→okI (kindF a l i k)
 | [],i,k,h,hk=>hk
 |w::r,i,k,h,hk=>by
  refine kindF_ok a r (i+1) _ (by simp at h; omega) ?_
  split
  ·unfold okI; simp at h; omega
  ·exact hk
theorem gv0_back (B:Nat) (M:AMem):gv0.map (AVal.back1 B M)=gv0:=rfl
theorem loop24 (s a:Bytes) (l:List Fld) (M0:List AVal) (hM0:∀B M,M0.map (AVal.back1 B M)=M0) (C:CallF) (hC:C=acall tab) (v5 v6:AVal) (h5:∀B M,v5.backV B M=v5) (h6:∀B M,v6.backV B M=v6):∀(r pre:List Bytes),wordsL=pre++r→∀(kd:Int) (fn:List ARes) (base:Nat) (k:List K),
  exK C fn base (.block 0::k) (.loop [0,2,4,5,6,7,25,26] lb24_0) [(0,.str s),(2,.ptr 0 0),(4,.ptr 1 0),(5,v5),(6,v6),(7,eI kd),(25,.agg gv0),(26,eI pre.length)]
   [.cells M0,.cells [.str a,.slice .sh (l.map eFld)]] =
  kr C fn base k ⟨.normal,[(0,.str s),(2,.ptr 0 0),(4,.ptr 1 0),(5,v5),(6,v6),(7,eI (kindF a r pre.length kd)),(25,.agg gv0),(26,eI 18),(27,.bool false)],
   [.cells M0,.cells [.str a,.slice .sh (l.map eFld)]]⟩
 | [],pre,he,kd,fn,base,k=>by
  subst hC
  have:pre=wordsL:=by simpa using he.symm
  subst this
  rw [exK_loop]
  have hlt:decide ((wordsL.length:Int)<18)=false:=rfl
  have h18:((wordsL.length:Nat):Int)=18:=rfl
  simp only [E24,hlt,kindF,h18,EVT,EVD,↓reduceIte,Nat.reduceEqDiff,reduceCtorEq,Nat.reduceAdd,Nat.reduceLeDiff,ne_eq,Nat.reduceLT,Int.reduceLT,Int.reduceLE,Int.reduceNeg]
 |f::r,pre,he,kd,fn,base,k=>by
  subst hC
  have hl0:wordsL.length=18:=rfl
  have hl':pre.length<18:=by rw [←hl0,he]; simp
  have hlt:decide ((pre.length:Int)<18)=true:=by simp; omega
  have hix:gv0[pre.length]?=some (.str f):=by unfold gv0; rw [he]; simp
  have hn:(0:Int)≤pre.length:=by omega
  have hw:IntKind.i64.wrap ((pre.length:Int)+1)=((pre++[f]).length:Int):=by rw [List.length_append,wrapS (by omega) (by omega)]; simp
  have ih:=fun kd=>loop24 s a l M0 hM0 (acall tab) rfl v5 v6 h5 h6 r (pre++[f]) (by simpa using he) kd fn base k
  simp only [List.length_append,List.length_cons,List.length_nil,Nat.zero_add] at ih hw
  rw [exK_loop,kindF]
  have hl2:((pre.length:Int)<((18:Nat):Int))=True:=by simp only [eq_iff_iff,iff_true]; omega
  simp only [E24,hlt,hix,hl2,EVT,EVD,↓reduceIte,Nat.reduceEqDiff,reduceCtorEq,Nat.reduceAdd,Nat.reduceLeDiff,ne_eq,Nat.reduceLT,Int.reduceLT,Int.reduceLE,Int.reduceNeg]
  refine guard_split (fun hb=>?_) (fun hb=>?_)
  ·simp only [E24,hb,EVT,EVD,↓reduceIte,Nat.reduceEqDiff,reduceCtorEq,Nat.reduceAdd,Nat.reduceLeDiff,ne_eq,Nat.reduceLT,Int.reduceLT,Int.reduceLE,Int.reduceNeg]
   refine fork_split (fun hc=>?_) (fun hc=>?_)
   ·rw [if_pos ⟨by simpa using hb,by simp at hc; omega⟩]
    simp only [E24,hc,hw,h5,h6,hM0,gv0_back,EVT,EVD,↓reduceIte,Nat.reduceEqDiff,reduceCtorEq,Nat.reduceAdd,Nat.reduceLeDiff,ne_eq,Nat.reduceLT,Int.reduceLT,Int.reduceLE,Int.reduceNeg]
    exact ih _
   ·rw [if_neg (fun e=>by have:=of_decide_eq_false hc; have:=e.2; omega)]
    simp only [E24,hc,hw,h5,h6,hM0,gv0_back,EVT,EVD,↓reduceIte,Nat.reduceEqDiff,reduceCtorEq,Nat.reduceAdd,Nat.reduceLeDiff,ne_eq,Nat.reduceLT,Int.reduceLT,Int.reduceLE,Int.reduceNeg]
    exact ih _
  ·rw [if_neg (by intro e; simp at hb; exact hb e.1)]
   simp only [E24,hb,hw,h5,h6,hM0,gv0_back,EVT,EVD,↓reduceIte,Nat.reduceEqDiff,reduceCtorEq,Nat.reduceAdd,Nat.reduceLeDiff,ne_eq,Nat.reduceLT,Int.reduceLT,Int.reduceLE,Int.reduceNeg]
   exact ih _
theorem cut_field_le (s w:Bytes):(getN w (cutR s)).1.s.length≤s.length:=by
 unfold getN
 split
 ·rename_i f h
  have hm:=List.mem_of_find?_eq_some h
  unfold cutR at hm
  obtain ⟨x,hx,rfl⟩:=List.mem_map.1 hm
  have h1:=cutL_mem 32 s x (List.mem_of_mem_tail hx)
  have h2:=(cut_le x [61]).2
  simp only [fldR]
  omega
 ·simp [zFld]
theorem cut_field_ok (s w:Bytes):okI (getN w (cutR s)).1.n:=by
 unfold getN
 split
 ·rename_i f h
  have hm:=List.mem_of_find?_eq_some h
  unfold cutR at hm
  obtain ⟨x,hx,rfl⟩:=List.mem_map.1 hm
  exact atoiN_ok _
 ·exact okI_zero
theorem cutR_len (s:Bytes):(cutR s).length≤s.length:=by
 have:=cutL_len 32 s
 simp [cutR]; omega
def numG (s w:Bytes):Int:=(getN w (cutR s)).1.n
def txtG (s w:Bytes):Bytes:=rawN (getN w (cutR s)).1.s
def opOf (s:Bytes):Op:=⟨kindF (cutF s) wordsL 0 (atoiN (trimN (cutF s) [111,112])),numG s wClient,txtG s wPath,txtG s wTo,numG s wN,numG s wM,numG s wHandle,txtG s wData⟩
theorem txtG_le (s w:Bytes):(txtG s w).length≤s.length:=Nat.le_trans (rawN_le _ _ (Nat.le_refl _)) (cut_field_le s w)
theorem opOf_ok {s:Bytes} (h:s.length≤900000):OpOk (opOf s) where
 kind:=kindF_ok _ _ _ _ (by decide) (atoiN_ok _)
 client:=cut_field_ok _ _
 path:=by have:=txtG_le s wPath; simp only [opOf]; omega
 dest:=by have:=txtG_le s wTo; simp only [opOf]; omega
 n:=cut_field_ok _ _
 m:=cut_field_ok _ _
 handle:=cut_field_ok _ _
 data:=by have:=txtG_le s wData; simp only [opOf]; omega
def opZ:Op:=⟨0,0,[],[],0,0,0,[]⟩
def rdOp (s:Bytes):Op×Int:=if opN (opOf s)=s then (opOf s,0) else (opZ,11)
theorem k56 (a w:Bytes) (l:List Fld) (hl:l.length≤10000000) (M:AMem):callOp (acall tab) 56 [eRead .sh a l,.str w] M=some (.int .i64 (getN w l).1.n,M):=callOp0 (c56 a w .sh (.inl rfl) l hl) rfl rfl rfl rfl rfl M
theorem k57 (a w:Bytes) (l:List Fld) (hl:l.length≤10000000) (hs:(getN w l).1.s.length≤1000000) (M:AMem):callOp (acall tab) 57 [eRead .sh a l,.str w] M=some (.str (rawN (getN w l).1.s),M):=callOp0 (c57 a w .sh (.inl rfl) l hl hs) rfl rfl rfl rfl rfl M
theorem c24 (s:Bytes) (hs:s.length≤900000):acall tab 24 [.str s] []=some (.tuple [eOp .sh (rdOp s).1,eI (rdOp s).2],[]):=by
 refine acall_ex rfl rfl rfl ?_
 have h55:=fun M=>k55 s hs M
 have hcf:(cutF s).length≤s.length:=cutL_mem 32 s _ (by rw [cutL_split 32 s]; simp [cutF])
 have h59:=fun M=>k59 (cutF s) [111,112] M
 have h58:=fun M=>k58 (trimN (cutF s) [111,112]) (by have:=trimN_le (cutF s) [111,112]; omega) M
 have hl:=cutR_len s
 have h56:=fun w M=>k56 (cutF s) w (cutR s) (by omega) M
 have h57:=fun w M=>k57 (cutF s) w (cutR s) (by omega) (by have:=cut_field_le s w; omega) M
 have h15:=fun M=>k15 (opOf s) (opOf_ok hs) .sh (.inl rfl) M
 simp only [eRead] at h55 h56 h57
 have hg:(18≤gv0.length)=True:=by simp only [eq_iff_iff,iff_true]; decide
 have ht:List.take 18 gv0=gv0:=rfl
 have hlp:=fun M0 hM0 v5 v6 h5 h6=>loop24 s (cutF s) (cutR s) M0 hM0 (acall tab) rfl v5 v6 h5 h6 wordsL [] rfl
 have ho:eOpC .sh (opOf s)=eOpC .sh (opOf s):=rfl
 generalize hq:opN (opOf s)=q at h15
 conv at ho=>rhs; simp only [eOpC,opOf,numG,txtG,wClient,wPath,wTo,wN,wM,wHandle,wData]
 rw [eOp,ho] at h15
 have hr:some (AVal.tuple [eOp .sh (rdOp s).1,eI (rdOp s).2],([]:AMem))=if (q != s)=false then some (.tuple [.agg (eOpC .sh (opOf s)),eI 0],[]) else some (.tuple [.agg (eOpC .sh opZ),eI 11],[]):=by
  unfold rdOp
  rw [hq]
  by_cases h:q=s<;>simp [h]
 rw [hr,ho]
 clear hr ho
 simp only [fn24,E24,h55,h58,h59,hg,ht,EVT,EVD,↓reduceIte,Nat.reduceEqDiff,reduceCtorEq,Nat.reduceAdd,Nat.reduceLeDiff,ne_eq,Nat.reduceLT,Int.reduceLT,Int.reduceLE,Int.reduceNeg]
 refine (hlp _ (by intro B M; rfl) _ _ (by intro B M; rfl) (by intro B M; rfl) _ _ _ _).trans ?_
 simp only [E24,h56,h57,h15,EVT,EVD,↓reduceIte,Nat.reduceEqDiff,reduceCtorEq,Nat.reduceAdd,Nat.reduceLeDiff,ne_eq,Nat.reduceLT,Int.reduceLT,Int.reduceLE,Int.reduceNeg]
 refine fork_split (fun hc=>?_) (fun hc=>?_)
 ·rw [if_neg (by rw [hc]; decide)]
  simp only [E24,hc,EVT,EVD,↓reduceIte,Nat.reduceEqDiff,reduceCtorEq,Nat.reduceAdd,Nat.reduceLeDiff,ne_eq,Nat.reduceLT,Int.reduceLT,Int.reduceLE,Int.reduceNeg]
  rfl
 ·rw [if_pos hc]
  simp only [E24,hc,EVT,EVD,↓reduceIte,Nat.reduceEqDiff,reduceCtorEq,Nat.reduceAdd,Nat.reduceLeDiff,ne_eq,Nat.reduceLT,Int.reduceLT,Int.reduceLE,Int.reduceNeg]
theorem k24 (s:Bytes) (hs:s.length≤900000) (M:AMem):callOp (acall tab) 24 [.str s] M=some (.tuple [eOp .sh (rdOp s).1,eI (rdOp s).2],M):=callOp0 (c24 s hs) rfl rfl rfl rfl rfl M
end Go.Proofs.YtannopdcbocngaaGreatDoor
namespace Go.Proofs.YtannopdcbocngaaGreatDoor
open Go Go.Abs
attribute [local irreducible] exK opsK opK gK forkK kr acall callOp owhen obind
theorem loop26 (s a:Bytes) (l:List Fld) (M0:List AVal) (hM0:∀B M,M0.map (AVal.back1 B M)=M0) (v0 v1 v2 v3 v4 v6:AVal) (hv:∀B M,[v0,v1,v2,v3,v4,v6].map (AVal.back1 B M)=[v0,v1,v2,v3,v4,v6]) (f:List AVal) (hf:∀B M,f.map (AVal.back1 B M)=f)
  (ws:List Bytes) (hl:ws.length≤1000000) (hs:∀x,x∈ws→x.length≤1000000) (C:CallF) (hC:C=acall tab):∀(r pre:List Bytes),ws=pre++r→∀(fn:List ARes) (base:Nat) (k:List K),
  exK C fn base (.block 0::k) (.loop [0,2,8,45,46,47] lb26_0) [(0,.str s),(2,.ptr 0 0),(8,.ptr 2 0),(45,.slice .sh (ws.map .str)),(46,eI ws.length),(47,eI pre.length)]
   [.cells M0,.cells [.str a,.slice .sh (l.map eFld)],.cells [v0,v1,v2,v3,v4,.slice (.own 3) ((pre.map rawN).map .str),v6],.tick 1 pre.length,.cells f] =
  kr C fn base k ⟨.normal,[(0,.str s),(2,.ptr 0 0),(8,.ptr 2 0),(45,.slice .sh (ws.map .str)),(46,eI ws.length),(47,eI ws.length),(48,.bool false)],
   [.cells M0,.cells [.str a,.slice .sh (l.map eFld)],.cells [v0,v1,v2,v3,v4,.slice (.own 3) ((ws.map rawN).map .str),v6],.tick 1 ws.length,.cells f]⟩
 | [],pre,he,fn,base,k=>by
  subst hC
  have:pre=ws:=by simpa using he.symm
  subst this
  rw [exK_loop]
  have hlt:decide ((pre.length:Int)<pre.length)=false:=by simp
  simp only [E26,hlt,EVT,EVD,↓reduceIte,Nat.reduceEqDiff,reduceCtorEq,Nat.reduceAdd,Nat.reduceLeDiff,ne_eq,Nat.reduceLT,Int.reduceLT,Int.reduceLE,Int.reduceNeg]
 |x::r,pre,he,fn,base,k=>by
  subst hC
  have hl':pre.length<ws.length:=by rw [he]; simp
  have hlt:decide ((pre.length:Int)<ws.length)=true:=by simpa using hl'
  have hix:ws[pre.length]?=some x:=by rw [he]; simp
  have hn:(0:Int)≤pre.length:=by omega
  have hw:IntKind.i64.wrap ((pre.length:Int)+1)=((pre++[x]).length:Int):=by rw [List.length_append,wrapS (by omega) (by omega)]; simp
  have h65:=fun M=>k65 x (hs x (by rw [he]; simp)) M
  have hr:=roomO (a:=pre.length+1) (b:=16) (by omega) (by omega)
  have ih:=loop26 s a l M0 hM0 v0 v1 v2 v3 v4 v6 hv f hf ws hl hs (acall tab) rfl r (pre++[x]) (by simpa using he) fn base k
  simp only [List.length_append,List.length_cons,List.length_nil,Nat.zero_add,List.map_append,List.map_cons,List.map_nil] at ih hw
  simp only [List.map_cons,List.map_nil,List.cons.injEq,and_true] at hv
  rw [exK_loop]
  simp only [E26,hlt,hix,h65,hr,widS,hw,hM0,hf,hv,EVT,EVD,↓reduceIte,Nat.reduceEqDiff,reduceCtorEq,Nat.reduceAdd,Nat.reduceLeDiff,ne_eq,Nat.reduceLT,Int.reduceLT,Int.reduceLE,Int.reduceNeg]
  exact ih
theorem sumL_cut (c:UInt8):∀s:Bytes,sumL (cutL c s)≤s.length
 | []=>by simp [cutL,sumL]
 |x::r=>by
  have ih:=sumL_cut c r
  unfold cutL
  split
  ·simp only [sumL,List.map_cons,List.sum_cons,List.length_nil,List.length_cons] at ih ⊢; omega
  ·rw [cutL_split c r] at ih
   simp only [sumL,List.map_cons,List.sum_cons,List.length_cons,List.headD_cons,List.tail_cons] at ih ⊢; omega
theorem sumL_raw:∀l:List Bytes,sumL (l.map rawN)≤sumL l
 | []=>by simp [sumL]
 |x::r=>by
  have ih:=sumL_raw r
  have:=rawN_le _ x (Nat.le_refl _)
  simp only [sumL,List.map_cons,List.sum_cons] at ih ⊢
  omega
def namesG (s:Bytes):List Bytes:=if (getN wNames (cutR s)).2=true then (cutL 44 (getN wNames (cutR s)).1.s).map rawN else []
def ansOf (s:Bytes):Ans:=⟨atoiN (trimN (cutF s) [101,114,114,111,114]),numG s wIno,numG s wKind,numG s wN,numG s wM,namesG s,txtG s wData⟩
theorem ansOf_ok {s:Bytes} (h:s.length≤900000):AnsOk (ansOf s) where
 err:=atoiN_ok _
 ino:=cut_field_ok _ _
 kind:=cut_field_ok _ _
 n:=cut_field_ok _ _
 m:=cut_field_ok _ _
 names:=by
  have h1:=cut_field_le s wNames
  have h2:=cutL_len 44 (getN wNames (cutR s)).1.s
  simp only [ansOf,namesG]
  split
  ·simp; omega
  ·simp
 sum:=by
  have h1:=cut_field_le s wNames
  have h2:=sumL_cut 44 (getN wNames (cutR s)).1.s
  have h3:=sumL_raw (cutL 44 (getN wNames (cutR s)).1.s)
  simp only [ansOf,namesG]
  split
  ·omega
  ·simp [sumL]
 data:=by have:=txtG_le s wData; simp only [ansOf]; omega
def ansZ:Ans:=⟨0,0,0,0,0,[],[]⟩
def rdAns (s:Bytes):Ans×Int:=if ansN (ansOf s)=s then (ansOf s,0) else (ansZ,11)
theorem c26 (s:Bytes) (hs:s.length≤900000):acall tab 26 [.str s] []=some (.tuple [eAns .sh .sh (rdAns s).1,eI (rdAns s).2],[]):=by
 refine acall_ex rfl rfl rfl ?_
 have h55:=fun M=>k55 s hs M
 have hcf:(cutF s).length≤s.length:=cutL_mem 32 s _ (by rw [cutL_split 32 s]; simp [cutF])
 have h59:=fun M=>k59 (cutF s) [101,114,114,111,114] M
 have h58:=fun M=>k58 (trimN (cutF s) [101,114,114,111,114]) (by have:=trimN_le (cutF s) [101,114,114,111,114]; omega) M
 have hl:=cutR_len s
 have h56:=fun w M=>k56 (cutF s) w (cutR s) (by omega) M
 have h57:=fun w M=>k57 (cutF s) w (cutR s) (by omega) (by have:=cut_field_le s w; omega) M
 have h63:=fun M=>k63 (cutF s) wNames .sh (.inl rfl) (cutR s) (by omega) M
 have hfl:=cut_field_le s wNames
 have h64:=fun M=>k64 (getN wNames (cutR s)).1.s [44] (by omega) (by simp) M
 rw [splitS_one] at h64
 have h17:=fun M=>k17 (ansOf s) (ansOf_ok hs) .sh .sh (.inl rfl) (.inl rfl) M
 have hlp:=fun M0 hM0 v0 v1 v2 v3 v4 v6 hv f hf=>loop26 s (cutF s) (cutR s) M0 hM0 v0 v1 v2 v3 v4 v6 hv f hf (cutL 44 (getN wNames (cutR s)).1.s) (by have:=cutL_len 44 (getN wNames (cutR s)).1.s; omega) (fun x hx=>by have:=cutL_mem 44 _ x hx; omega) (acall tab) rfl _ [] rfl
 have ho:eAnsC .sh .sh (ansOf s)=eAnsC .sh .sh (ansOf s):=rfl
 generalize hq:ansN (ansOf s)=q at h17
 conv at ho=>rhs; simp only [eAnsC,ansOf,numG,txtG,wIno,wKind,wN,wM,wData]
 rw [eAns,ho] at h17
 have hr:some (AVal.tuple [eAns .sh .sh (rdAns s).1,eI (rdAns s).2],([]:AMem))=if (q != s)=false then some (.tuple [.agg (eAnsC .sh .sh (ansOf s)),eI 0],[]) else some (.tuple [.agg (eAnsC .sh .sh ansZ),eI 11],[]):=by
  unfold rdAns
  rw [hq]
  by_cases h:q=s<;>simp [h]
 rw [hr,ho]
 clear hr ho
 simp only [eRead,eFld,eFldC,wNames] at h55 h56 h57 h63
 simp only [fn26,E26,h55,h58,h59,h56,h57,h63,EVT,EVD,↓reduceIte,Nat.reduceEqDiff,reduceCtorEq,Nat.reduceAdd,Nat.reduceLeDiff,ne_eq,Nat.reduceLT,Int.reduceLT,Int.reduceLE,Int.reduceNeg]
 have hn:∀b,(getN [110,97,109,101,115] (cutR s)).2=b→namesG s=if b=true then (cutL 44 (getN [110,97,109,101,115] (cutR s)).1.s).map rawN else []:=fun b h=>by subst h; rfl
 simp only [wNames] at h64 hlp
 refine fork_split (fun hb=>?_) (fun hb=>?_)
 ·rw [hn _ hb,if_pos (show true=true from rfl)] at h17 ⊢
  simp only [E26,hb,h64,List.length_map,EVT,EVD,↓reduceIte,Nat.reduceEqDiff,reduceCtorEq,Nat.reduceAdd,Nat.reduceLeDiff,ne_eq,Nat.reduceLT,Int.reduceLT,Int.reduceLE,Int.reduceNeg]
  refine (hlp _ (by intro B M; rfl) _ _ _ _ _ _ (by intro B M; rfl) _ (by intro B M; rfl) _ _ _).trans ?_
  simp only [E26,h17,EVT,EVD,↓reduceIte,Nat.reduceEqDiff,reduceCtorEq,Nat.reduceAdd,Nat.reduceLeDiff,ne_eq,Nat.reduceLT,Int.reduceLT,Int.reduceLE,Int.reduceNeg]
  refine fork_split (fun hc=>?_) (fun hc=>?_)
  ·rw [if_neg (by rw [hc]; decide)]
   simp only [E26,hc,EVT,EVD,↓reduceIte,Nat.reduceEqDiff,reduceCtorEq,Nat.reduceAdd,Nat.reduceLeDiff,ne_eq,Nat.reduceLT,Int.reduceLT,Int.reduceLE,Int.reduceNeg]
   rfl
  ·rw [if_pos hc]
   simp only [E26,hc,EVT,EVD,↓reduceIte,Nat.reduceEqDiff,reduceCtorEq,Nat.reduceAdd,Nat.reduceLeDiff,ne_eq,Nat.reduceLT,Int.reduceLT,Int.reduceLE,Int.reduceNeg]
 ·rw [hn _ hb,if_neg (show ¬(false=true) by decide)] at h17 ⊢
  simp only [List.map_nil] at h17 ⊢
  simp only [E26,hb,h17,EVT,EVD,↓reduceIte,Nat.reduceEqDiff,reduceCtorEq,Nat.reduceAdd,Nat.reduceLeDiff,ne_eq,Nat.reduceLT,Int.reduceLT,Int.reduceLE,Int.reduceNeg]
  refine fork_split (fun hc=>?_) (fun hc=>?_)
  ·rw [if_neg (by rw [hc]; decide)]
   simp only [E26,hc,EVT,EVD,↓reduceIte,Nat.reduceEqDiff,reduceCtorEq,Nat.reduceAdd,Nat.reduceLeDiff,ne_eq,Nat.reduceLT,Int.reduceLT,Int.reduceLE,Int.reduceNeg]
   rfl
  ·rw [if_pos hc]
   simp only [E26,hc,EVT,EVD,↓reduceIte,Nat.reduceEqDiff,reduceCtorEq,Nat.reduceAdd,Nat.reduceLeDiff,ne_eq,Nat.reduceLT,Int.reduceLT,Int.reduceLE,Int.reduceNeg]
theorem k26 (s:Bytes) (hs:s.length≤900000) (M:AMem):callOp (acall tab) 26 [.str s] M=some (.tuple [eAns .sh .sh (rdAns s).1,eI (rdAns s).2],M):=callOp0 (c26 s hs) rfl rfl rfl rfl rfl M
end Go.Proofs.YtannopdcbocngaaGreatDoor
namespace Go.Proofs.YtannopdcbocngaaGreatDoor
open Go Go.Abs
attribute [local irreducible] exK opsK opK gK forkK kr acall callOp owhen obind
structure Event where
 kind:Int
 client:Int
 op:Op
 ans:Ans
 deriving DecidableEq,Inhabited
def eEvC (e:Event):List AVal:=[.int .i64 e.kind,.int .i64 e.client,
 .int .i64 e.op.kind,.int .i64 e.op.client,.str e.op.path,.str e.op.dest,.int .i64 e.op.n,.int .i64 e.op.m,.int .i64 e.op.handle,.slice .sh (e.op.data.map u8V),
 .int .i64 e.ans.err,.int .i64 e.ans.ino,.int .i64 e.ans.kind,.int .i64 e.ans.n,.int .i64 e.ans.m,.slice .sh (e.ans.names.map .str),.slice .sh (e.ans.data.map u8V)]
abbrev eEv (e:Event):AVal := .agg (eEvC e)
structure EvOk (e:Event):Prop where
 client:okI e.client
 op:OpOk e.op
 ans:AnsOk e.ans
theorem opN_le {o:Op} (h:OpOk o):(opN o).length≤10000000:=by
 have h0:=firstN_le h.kind
 have h1:=fldN_le' (f:=⟨wClient,o.client,[]⟩) h.client
 have h2:=fldN_le' (f:=⟨wPath,0,escN o.path⟩) okI_zero
 have h3:=fldN_le' (f:=⟨wTo,0,escN o.dest⟩) okI_zero
 have h4:=fldN_le' (f:=⟨wN,o.n,[]⟩) h.n
 have h5:=fldN_le' (f:=⟨wM,o.m,[]⟩) h.m
 have h6:=fldN_le' (f:=⟨wHandle,o.handle,[]⟩) h.handle
 have h7:=fldN_le' (f:=⟨wData,0,escN o.data⟩) okI_zero
 have e1:=escN_le o.path; have e2:=escN_le o.dest; have e3:=escN_le o.data
 have g1:=h.path; have g2:=h.dest; have g3:=h.data
 simp only [wClient,wPath,wTo,wN,wM,wHandle,wData,List.length_cons,List.length_nil] at h1 h2 h3 h4 h5 h6 h7
 simp only [opN,lineN,opFlds,fldsN,List.flatMap_cons,List.flatMap_nil,List.length_append,List.length_nil,wClient,wPath,wTo,wN,wM,wHandle,wData]
 omega
theorem ansN_le {a:Ans} (h:AnsOk a):(ansN a).length≤10000000:=by
 have h0:=ansHead_le h
 have h1:=namesN_le h
 have h2:=fldN_le' (f:=⟨wData,0,escN a.data⟩) okI_zero
 have e1:=escN_le a.data; have g1:=h.data
 simp only [wData,List.length_cons,List.length_nil] at h2
 unfold ansN
 rw [lineN]
 simp only [fldsN,List.flatMap_cons,List.flatMap_nil,List.length_append,List.length_nil,wData]
 omega
def evN (e:Event):Bytes:=if e.kind=1 then 98::101::103::105::110::32::(Lib.itoa e.client++[58,32]++opN e.op++[10]) else if e.kind=2 then 101::110::100::32::(Lib.itoa e.client++[58,32]++ansN e.ans++[10]) else []
def histN (l:List Event):Bytes:=l.flatMap evN
theorem evN_le {e:Event} (h:EvOk e):(evN e).length≤10000100:=by
 have:=opN_le h.op; have:=ansN_le h.ans; have:=itoa_le h.client
 unfold evN
 split
 ·simp; omega
 ·split
  ·simp; omega
  ·simp
theorem loop19 (l:List Event) (hok:∀e,e∈l→EvOk e) (hl:l.length≤100000) (C:CallF) (hC:C=acall tab):∀(r pre:List Event),l=pre++r→∀(t:Bytes),t.length≤10000100*pre.length→∀(fn:List ARes) (base:Nat) (k:List K),
  exK C fn base (.block 0::k) (.loop [3,6,7,8] lb19_0) [(3,.ptr 1 0),(6,.slice .sh (l.map eEv)),(7,eI l.length),(8,eI pre.length)] [.tick 1 t.length,bld 1 0 t] =
  kr C fn base k ⟨.normal,[(3,.ptr 1 0),(6,.slice .sh (l.map eEv)),(7,eI l.length),(8,eI l.length),(9,.bool false)],[.tick 1 (t++histN r).length,bld 1 0 (t++histN r)]⟩
 | [],pre,he,t,ht,fn,base,k=>by
  subst hC
  have:pre=l:=by simpa using he.symm
  subst this
  rw [exK_loop]
  have hlt:decide ((pre.length:Int)<pre.length)=false:=by simp
  have h0:t++histN []=t:=by simp [histN]
  rw [h0]
  simp only [E19,hlt,EVT,EVD,↓reduceIte,Nat.reduceEqDiff,reduceCtorEq,Nat.reduceAdd,Nat.reduceLeDiff,ne_eq,Nat.reduceLT,Int.reduceLT,Int.reduceLE,Int.reduceNeg]
 |e::r,pre,he,t,ht,fn,base,k=>by
  subst hC
  have hl':pre.length<l.length:=by rw [he]; simp
  have hlt:decide ((pre.length:Int)<l.length)=true:=by simpa using hl'
  have hix:l[pre.length]?=some e:=by rw [he]; simp
  have hn:(0:Int)≤pre.length:=by omega
  have hw:IntKind.i64.wrap ((pre.length:Int)+1)=((pre++[e]).length:Int):=by rw [List.length_append,wrapS (by omega) (by omega)]; simp
  have hfo:=hok e (by rw [he]; simp)
  have h4:=evN_le hfo
  have ho:=opN_le hfo.op; have ha:=ansN_le hfo.ans; have hi:=itoa_le hfo.client
  have ih:=loop19 l hok hl (acall tab) rfl r (pre++[e]) (by simpa using he) (t++evN e) (by simp; omega) fn base k
  have hfr:t++evN e++histN r=t++histN (e::r):=by simp [histN]
  rw [hfr] at ih
  generalize t++histN (e::r)=u at ih ⊢
  have h42:=fun M=>k42 e.client hfo.client M
  have h15:=fun M=>k15 e.op hfo.op .sh (.inl rfl) M
  have h17:=fun M=>k17 e.ans hfo.ans .sh .sh (.inl rfl) (.inl rfl) M
  simp only [eOpC,eAnsC,eOp,eAns] at h15 h17
  simp only [List.length_append,List.length_cons,List.length_nil,Nat.zero_add] at ih hw
  have hk:=fun (c:List AVal) (v:Bytes) (hv:t.length+v.length≤1099511627776)=>k50 (p:=1) (k:=0) (M:=[.tick 1 t.length,bld 1 0 t,.cells c]) v rfl rfl (by decide) hv
  simp only [List.length_append] at hk
  rw [exK_loop]
  simp only [E19,hlt,hix,eEvC,EVT,EVD,↓reduceIte,Nat.reduceEqDiff,reduceCtorEq,Nat.reduceAdd,Nat.reduceLeDiff,ne_eq,Nat.reduceLT,Int.reduceLT,Int.reduceLE,Int.reduceNeg]
  refine fork_split (fun hb=>?_) (fun hb=>?_)
  ·have he2:evN e=98::101::103::105::110::32::(Lib.itoa e.client++[58,32]++opN e.op++[10]):=by rw [evN,if_pos (by simpa using hb)]
   simp (disch:=omega) only [E19,hb,h42,h15,EVT,EVD,↓reduceIte,Nat.reduceEqDiff,reduceCtorEq,Nat.reduceAdd,Nat.reduceLeDiff,ne_eq,Nat.reduceLT,Int.reduceLT,Int.reduceLE,Int.reduceNeg]
   rw [←he2,hk _ (evN e) (by omega)]
   simp only [E19,hw,EVT,EVD,↓reduceIte,Nat.reduceEqDiff,reduceCtorEq,Nat.reduceAdd,Nat.reduceLeDiff,ne_eq,Nat.reduceLT,Int.reduceLT,Int.reduceLE,Int.reduceNeg]
   exact ih
  ·simp only [E19,hb,EVT,EVD,↓reduceIte,Nat.reduceEqDiff,reduceCtorEq,Nat.reduceAdd,Nat.reduceLeDiff,ne_eq,Nat.reduceLT,Int.reduceLT,Int.reduceLE,Int.reduceNeg]
   refine fork_split (fun hc=>?_) (fun hc=>?_)
   ·have he2:evN e=101::110::100::32::(Lib.itoa e.client++[58,32]++ansN e.ans++[10]):=by rw [evN,if_neg (by simpa using hb),if_pos (by simpa using hc)]
    simp (disch:=omega) only [E19,hb,hc,h42,h17,EVT,EVD,↓reduceIte,Nat.reduceEqDiff,reduceCtorEq,Nat.reduceAdd,Nat.reduceLeDiff,ne_eq,Nat.reduceLT,Int.reduceLT,Int.reduceLE,Int.reduceNeg]
    rw [←he2,hk _ (evN e) (by omega)]
    simp only [E19,hw,EVT,EVD,↓reduceIte,Nat.reduceEqDiff,reduceCtorEq,Nat.reduceAdd,Nat.reduceLeDiff,ne_eq,Nat.reduceLT,Int.reduceLT,Int.reduceLE,Int.reduceNeg]
    exact ih
   ·have he2:evN e=[]:=by rw [evN,if_neg (by simpa using hb),if_neg (by simpa using hc)]
    rw [he2,List.append_nil] at ih
    simp only [List.length_nil,Nat.add_zero] at ih
    simp only [E19,hb,hc,hw,EVT,EVD,↓reduceIte,Nat.reduceEqDiff,reduceCtorEq,Nat.reduceAdd,Nat.reduceLeDiff,ne_eq,Nat.reduceLT,Int.reduceLT,Int.reduceLE,Int.reduceNeg]
    exact ih
theorem histN_le:∀ {l:List Event},(∀e,e∈l→EvOk e)→(histN l).length≤10000100*l.length
 | [],_=>by simp [histN]
 |e::r,h=>by
  have h1:=evN_le (h e (by simp))
  have h2:=histN_le fun g hg=>h g (List.mem_cons_of_mem _ hg)
  simp only [histN,List.flatMap_cons,List.length_append,List.length_cons] at h2 ⊢
  omega
theorem c19 (l:List Event) (hok:∀e,e∈l→EvOk e) (hl:l.length≤100000):acall tab 19 [.slice .sh (l.map eEv)] []=some (.str (histN l),[]):=by
 refine acall_ex rfl rfl rfl ?_
 have h0:=loop19 l hok hl (acall tab) rfl l [] rfl [] (by simp)
 have hle:=histN_le hok
 have hk2:=k51 (p:=1) (k:=0) (M:=[.tick 1 (histN l).length,bld 1 0 (histN l)]) rfl rfl (by decide) (by omega)
 simp only [List.length_nil,List.nil_append] at h0
 simp only [fn19,E19,EVT,EVD,↓reduceIte,Nat.reduceEqDiff,reduceCtorEq,Nat.reduceAdd,Nat.reduceLeDiff,ne_eq,Nat.reduceLT,Int.reduceLT,Int.reduceLE,Int.reduceNeg]
 refine (h0 _ _ _).trans ?_
 simp only [E19,hk2,EVT,EVD,↓reduceIte,Nat.reduceEqDiff,reduceCtorEq,Nat.reduceAdd,Nat.reduceLeDiff,ne_eq,Nat.reduceLT,Int.reduceLT,Int.reduceLE,Int.reduceNeg]
theorem k19 (l:List Event) (hok:∀e,e∈l→EvOk e) (hl:l.length≤100000) (M:AMem):callOp (acall tab) 19 [.slice .sh (l.map eEv)] M=some (.str (histN l),M):=callOp0 (c19 l hok hl) rfl rfl rfl rfl rfl M
end Go.Proofs.YtannopdcbocngaaGreatDoor
namespace Go.Proofs.YtannopdcbocngaaGreatDoor
open Go Go.Abs
attribute [local irreducible] exK opsK opK gK forkK kr acall callOp owhen obind
def evWord (s:Bytes):Bytes:=(Lib.cut (Lib.cut s [58,32]).1 [32]).1
def evClient (s:Bytes):Int:=atoiN (Lib.cut (Lib.cut s [58,32]).1 [32]).2.1
def evRest (s:Bytes):Bytes:=(Lib.cut s [58,32]).2.1
def evHas (s:Bytes):Bool:=(Lib.cut s [58,32]).2.2
def evOf (s:Bytes):Event×Bool :=
 if evWord s=[98,101,103,105,110] then (⟨1,evClient s,(rdOp (evRest s)).1,ansZ⟩,evHas s&&(rdOp (evRest s)).2==0)
 else if evWord s=[101,110,100] then (⟨2,evClient s,opZ,(rdAns (evRest s)).1⟩,evHas s&&(rdAns (evRest s)).2==0)
 else (⟨0,evClient s,opZ,ansZ⟩,false)
theorem c68 (s:Bytes) (hs:s.length≤900000):acall tab 68 [.str s] []=some (.tuple [eEv (evOf s).1,.bool (evOf s).2],[]):=by
 refine acall_ex rfl rfl rfl ?_
 have h1:=cut_le s [58,32]
 have h2:=cut_le (Lib.cut s [58,32]).1 [32]
 have k1:=fun M=>k93 s [58,32] (by omega) M
 have k2:=fun M=>k93 (Lib.cut s [58,32]).1 [32] (by omega) M
 have k3:=fun M=>k58 (Lib.cut (Lib.cut s [58,32]).1 [32]).2.1 (by omega) M
 have k4:=fun M=>k24 (evRest s) (by unfold evRest; omega) M
 have k5:=fun M=>k26 (evRest s) (by unfold evRest; omega) M
 simp only [eOp,eOpC,eAns,eAnsC,evRest] at k4 k5
 simp only [fn68,E68,k1,k2,k3,EVT,EVD,↓reduceIte,Nat.reduceEqDiff,reduceCtorEq,Nat.reduceAdd,Nat.reduceLeDiff,ne_eq,Nat.reduceLT,Int.reduceLT,Int.reduceLE,Int.reduceNeg]
 refine fork_split (fun hb=>?_) (fun hb=>?_)
 ·have he:evOf s=(⟨1,evClient s,(rdOp (evRest s)).1,ansZ⟩,evHas s&&(rdOp (evRest s)).2==0):=by rw [evOf,if_pos (by simpa [evWord] using hb)]
  rw [he]
  simp only [E68,hb,k4,EVT,EVD,↓reduceIte,Nat.reduceEqDiff,reduceCtorEq,Nat.reduceAdd,Nat.reduceLeDiff,ne_eq,Nat.reduceLT,Int.reduceLT,Int.reduceLE,Int.reduceNeg]
  refine guard_split (fun hc=>?_) (fun hc=>?_)
  ·simp only [E68,hc,EVT,EVD,↓reduceIte,Nat.reduceEqDiff,reduceCtorEq,Nat.reduceAdd,Nat.reduceLeDiff,ne_eq,Nat.reduceLT,Int.reduceLT,Int.reduceLE,Int.reduceNeg]
   simp [eEvC,evClient,evRest,evHas,hc,ansZ]
  ·simp only [E68,hc,EVT,EVD,↓reduceIte,Nat.reduceEqDiff,reduceCtorEq,Nat.reduceAdd,Nat.reduceLeDiff,ne_eq,Nat.reduceLT,Int.reduceLT,Int.reduceLE,Int.reduceNeg]
   simp at hc
   simp [eEvC,evClient,evRest,evHas,hc,ansZ]
 ·simp only [E68,hb,EVT,EVD,↓reduceIte,Nat.reduceEqDiff,reduceCtorEq,Nat.reduceAdd,Nat.reduceLeDiff,ne_eq,Nat.reduceLT,Int.reduceLT,Int.reduceLE,Int.reduceNeg]
  refine fork_split (fun hd=>?_) (fun hd=>?_)
  ·have he:evOf s=(⟨2,evClient s,opZ,(rdAns (evRest s)).1⟩,evHas s&&(rdAns (evRest s)).2==0):=by rw [evOf,if_neg (by simpa [evWord] using hb),if_pos (by simpa [evWord] using hd)]
   rw [he]
   simp only [E68,hb,hd,k5,EVT,EVD,↓reduceIte,Nat.reduceEqDiff,reduceCtorEq,Nat.reduceAdd,Nat.reduceLeDiff,ne_eq,Nat.reduceLT,Int.reduceLT,Int.reduceLE,Int.reduceNeg]
   refine guard_split (fun hc=>?_) (fun hc=>?_)
   ·simp only [E68,hc,EVT,EVD,↓reduceIte,Nat.reduceEqDiff,reduceCtorEq,Nat.reduceAdd,Nat.reduceLeDiff,ne_eq,Nat.reduceLT,Int.reduceLT,Int.reduceLE,Int.reduceNeg]
    simp [eEvC,evClient,evRest,evHas,hc,opZ]
   ·simp only [E68,hc,EVT,EVD,↓reduceIte,Nat.reduceEqDiff,reduceCtorEq,Nat.reduceAdd,Nat.reduceLeDiff,ne_eq,Nat.reduceLT,Int.reduceLT,Int.reduceLE,Int.reduceNeg]
    simp at hc
    simp [eEvC,evClient,evRest,evHas,hc,opZ]
  ·have he:evOf s=(⟨0,evClient s,opZ,ansZ⟩,false):=by rw [evOf,if_neg (by simpa [evWord] using hb),if_neg (by simpa [evWord] using hd)]
   rw [he]
   simp only [E68,hb,hd,EVT,EVD,↓reduceIte,Nat.reduceEqDiff,reduceCtorEq,Nat.reduceAdd,Nat.reduceLeDiff,ne_eq,Nat.reduceLT,Int.reduceLT,Int.reduceLE,Int.reduceNeg]
   simp [eEvC,evClient,opZ,ansZ]
theorem k68 (s:Bytes) (hs:s.length≤900000) (M:AMem):callOp (acall tab) 68 [.str s] M=some (.tuple [eEv (evOf s).1,.bool (evOf s).2],M):=callOp0 (c68 s hs) rfl rfl rfl rfl rfl M
theorem rdOp_ok {s:Bytes} (h:s.length≤900000):OpOk (rdOp s).1:=by
 unfold rdOp
 split
 ·exact opOf_ok h
 ·constructor<;>simp [opZ,okI]
theorem rdAns_ok {s:Bytes} (h:s.length≤900000):AnsOk (rdAns s).1:=by
 unfold rdAns
 split
 ·exact ansOf_ok h
 ·constructor<;>simp [ansZ,okI,sumL]
theorem opZ_ok:OpOk opZ:=by constructor<;>simp [opZ,okI]
theorem ansZ_ok:AnsOk ansZ:=by constructor<;>simp [ansZ,okI,sumL]
theorem evOf_ok {s:Bytes} (h:s.length≤900000):EvOk (evOf s).1:=by
 have h1:=(cut_le s [58,32]).2
 have h2:(evRest s).length≤900000:=by unfold evRest; omega
 unfold evOf
 split
 ·exact ⟨atoiN_ok _,rdOp_ok h2,ansZ_ok⟩
 ·split
  ·exact ⟨atoiN_ok _,opZ_ok,rdAns_ok h2⟩
  ·exact ⟨atoiN_ok _,opZ_ok,ansZ_ok⟩
end Go.Proofs.YtannopdcbocngaaGreatDoor
set_option linter.defProp false
namespace Go.Proofs.YtannopdcbocngaaGreatDoor
open Go Go.Abs
def rfBc:Code→Code
 | .rangeFunc _ _ _ b=>b
 | .block _ c=>rfBc c
 | .seq a b=>match rfBc a with | .skip=>rfBc b|c=>c
 |_ => .skip
def rfHas:Code→Bool
 | .rangeFunc .. => true
 | .block _ c=>rfHas c
 | .seq a b=>rfHas a||rfHas b
 |_=>false
def rfRc:Code→Code
 | .seq a b=>if rfHas a then b else rfRc b
 |_ => .skip
def rfB (f:Func):Code:=match f.body with|some c=>rfBc c|none => .skip
def rfR (f:Func):Code:=match f.body with|some c=>rfRc c|none => .skip
def q28b_0:ACode :=
 (.seq (.region [
 ox (.store 1 (.tmp 2) (.cst (.slice .c0 []))),
 ox (.store 1 (.tmp 3) (.cst (.int .i64 11)))] false []) (.ret))
def q28b_1:ACode :=
 (.region [
 ob 20 (.load1 (.tmp 4)),
 ob 21 (.loadA 17 (.tmp 6)),
 ob 22 (.lits 17 [(.tmp 21)]),
 ob 23 (.append 17 200 (.tmp 20) (.tmp 22)),
 ox (.store 1 (.tmp 4) (.tmp 23))] false [])
def q28b_2:ACode :=
 (.seq (.seq (.region [
 ob 18 (.mv (.tmp 7)),
 ob 19 (.not (.tmp 18))] false [2,3,4,6,19]) (.cond (.tmp 19) q28b_0 (.skip))) q28b_1)
def q28b_3:ACode :=
 (.seq (.region [
 ob 14 (.mv (.tmp 5)),
 ob 15 (.call 68 [(.tmp 14)]),
 ob 13 (.mv (.tmp 15)),
 ob 16 (.extract (.tmp 13) 0),
 ob 17 (.extract (.tmp 13) 1),
 ob 6 (.box0 [(.int .i64 0),(.int .i64 0),(.int .i64 0),(.int .i64 0),(.str []),(.str []),(.int .i64 0),(.int .i64 0),(.int .i64 0),(.slice .c0 []),(.int .i64 0),(.int .i64 0),(.int .i64 0),(.int .i64 0),(.int .i64 0),(.slice .c0 []),(.slice .c0 [])]),
 ox (.store 17 (.tmp 6) (.tmp 16)),
 ob 7 (.mv (.tmp 17))] false [2,3,4,6,7]) q28b_2)
def ann28b:Ann:={ n:=29,own:=[],lv:=[(4,[2,3,4,5,12]),(5,[2,3,4,6,7]),(6,[2,3,4,6,19]),(7,[]),(8,[])],lp:=[] }
def cd28b:ACode :=
 (.block 1 (.seq (.seq (.region [
 ob 11 (.mv (.tmp 5)),
 ob 12 (.bin .eql (.tmp 11) (.cst (.str [])))] false [2,3,4,5,12]) (.cond (.tmp 12) (.exit 1) (.skip))) q28b_3))
theorem ok28b:comp Tryz.prog ann28b (rfB Tryz.f28)=some cd28b:=by kernel_rfl
def q28r_0:ACode :=
 (.seq (.region [
 ox (.store 1 (.tmp 2) (.cst (.slice .c0 []))),
 ox (.store 1 (.tmp 3) (.cst (.int .i64 11)))] false [2,3]) (.ret))
def q28r_1:ACode :=
 (.seq (.region [
 ob 28 (.load1 (.tmp 4)),
 ox (.store 1 (.tmp 2) (.tmp 28)),
 ox (.store 1 (.tmp 3) (.cst (.int .i64 0)))] false [2,3]) (.ret))
def ann28r:Ann:={ n:=29,own:=[],lv:=[(9,[2,3,4,27]),(10,[2,3]),(11,[2,3])],lp:=[] }
def cd28r:ACode :=
 (.seq (.seq (.region [
 ob 24 (.load1 (.tmp 4)),
 ob 25 (.call 19 [(.tmp 24)]),
 ob 26 (.mv (.tmp 0)),
 ob 27 (.bin .neq (.tmp 25) (.tmp 26))] false [2,3,4,27]) (.cond (.tmp 27) q28r_0 (.skip))) q28r_1)
theorem ok28r:comp Tryz.prog ann28r (rfR Tryz.f28)=some cd28r:=by kernel_rfl
end Go.Proofs.YtannopdcbocngaaGreatDoor
namespace Go.Proofs.YtannopdcbocngaaGreatDoor
open Go Go.Abs
attribute [local irreducible] acall callOp owhen obind
def Mh (evs:List Event):AMem:=[.cells [.slice .c0 []],.cells [.int .i64 0],.cells [.slice (.own 3) (evs.map eEv)],.tick 17 evs.length]
def Eh (s x:Bytes):Env:=[(0,.str s),(2,.ptr 0 0),(3,.ptr 1 0),(4,.ptr 2 0),(5,.str x)]
theorem round_skip (s:Bytes) (evs:List Event):∃env,aexec (acall tab) cd28b (Eh s []) (Mh evs)=some ⟨.normal,env,Mh evs⟩:=by
 refine ⟨?_,?_⟩
 rotate_left
 ·simp only [cd28b,Eh,Mh,aexec,aregion,goOn,outOf,EVT,EVD,↓reduceIte,Nat.reduceEqDiff,reduceCtorEq,Nat.reduceAdd,Nat.reduceLeDiff,ne_eq,Nat.reduceLT,Int.reduceLT,Int.reduceLE,Int.reduceNeg]
  rfl
theorem round_bad (s x:Bytes) (evs:List Event) (hx:x≠[]) (hl:x.length≤900000) (hb:(evOf x).2=false) :
  ∃env m,aexec (acall tab) cd28b (Eh s x) (Mh evs)=some ⟨.ret,env,.cells [.slice .c0 []] :: .cells [.int .i64 11] :: .cells [.slice (.own 3) (evs.map eEv)] :: .tick 17 evs.length::m⟩:=by
 have h68:=fun M=>k68 x hl M
 have hx':(x==[])=false:=by simpa using hx
 rw [hb] at h68
 simp only [eEv,eEvC] at h68
 refine ⟨?_,?_,?_⟩
 rotate_left
 rotate_left
 ·simp only [cd28b,q28b_0,q28b_1,q28b_2,q28b_3,Eh,Mh,aexec,aregion,goOn,outOf,hx',h68,EVT,EVD,↓reduceIte,Nat.reduceEqDiff,reduceCtorEq,Nat.reduceAdd,Nat.reduceLeDiff,ne_eq,Nat.reduceLT,Int.reduceLT,Int.reduceLE,Int.reduceNeg]
  rfl
theorem round_good (s x:Bytes) (evs:List Event) (hx:x≠[]) (hl:x.length≤900000) (hb:(evOf x).2=true) (hn:evs.length≤1000000) :
  ∃env m,aexec (acall tab) cd28b (Eh s x) (Mh evs)=some ⟨.normal,env,Mh (evs++[(evOf x).1])++m⟩:=by
 have h68:=fun M=>k68 x hl M
 have hx':(x==[])=false:=by simpa using hx
 have hr:=roomO (a:=evs.length+1) (b:=200) (by omega) (by omega)
 have hwd:wid (List.map eEv evs) 17=True:=by
  simp only [eq_iff_iff,iff_true]
  intro y hy
  obtain ⟨z,_,rfl⟩:=List.mem_map.1 hy
  rfl
 rw [hb] at h68
 simp only [eEv,eEvC] at h68
 refine ⟨?_,?_,?_⟩
 rotate_left
 rotate_left
 ·simp only [cd28b,q28b_0,q28b_1,q28b_2,q28b_3,Eh,Mh,aexec,aregion,goOn,outOf,hx',h68,hr,hwd,List.map_append,List.map_cons,List.map_nil,EVT,EVD,↓reduceIte,Nat.reduceEqDiff,reduceCtorEq,Nat.reduceAdd,Nat.reduceLeDiff,ne_eq,Nat.reduceLT,Int.reduceLT,Int.reduceLE,Int.reduceNeg]
  rfl
def Er (s:Bytes):Env:=[(0,.str s),(2,.ptr 0 0),(3,.ptr 1 0),(4,.ptr 2 0)]
theorem rest_ok (s:Bytes) (evs:List Event) (hok:∀e,e∈evs→EvOk e) (hl:evs.length≤100000) (h:histN evs=s) :
  ∃m,aexec (acall tab) cd28r (Er s) (Mh evs)=some ⟨.ret,[(2,.ptr 0 0),(3,.ptr 1 0)],.cells [.slice (.own 3) (evs.map eEv)] :: .cells [.int .i64 0]::m⟩:=by
 have h19:=fun M=>k19 evs hok hl M
 have hb:(histN evs != s)=false:=by simp [h]
 refine ⟨?_,?_⟩
 rotate_left
 ·simp only [cd28r,q28r_0,q28r_1,Er,Mh,aexec,aregion,goOn,outOf,h19,hb,EVT,EVD,↓reduceIte,Nat.reduceEqDiff,reduceCtorEq,Nat.reduceAdd,Nat.reduceLeDiff,ne_eq,Nat.reduceLT,Int.reduceLT,Int.reduceLE,Int.reduceNeg]
  rfl
theorem rest_bad (s:Bytes) (evs:List Event) (hok:∀e,e∈evs→EvOk e) (hl:evs.length≤100000) (h:¬histN evs=s) :
  ∃m,aexec (acall tab) cd28r (Er s) (Mh evs)=some ⟨.ret,[(2,.ptr 0 0),(3,.ptr 1 0)],.cells [.slice .c0 []] :: .cells [.int .i64 11]::m⟩:=by
 have h19:=fun M=>k19 evs hok hl M
 have hb:(histN evs != s)=true:=by simp [h]
 refine ⟨?_,?_⟩
 rotate_left
 ·simp only [cd28r,q28r_0,q28r_1,Er,Mh,aexec,aregion,goOn,outOf,h19,hb,EVT,EVD,↓reduceIte,Nat.reduceEqDiff,reduceCtorEq,Nat.reduceAdd,Nat.reduceLeDiff,ne_eq,Nat.reduceLT,Int.reduceLT,Int.reduceLE,Int.reduceNeg]
  rfl
end Go.Proofs.YtannopdcbocngaaGreatDoor
namespace Go.Proofs.YtannopdcbocngaaGreatDoor
open Go Go.Abs Go.RowKit Go.Shelf
theorem repP_mono' {w w':World} {saf saf':Nat→Nat→Prop} (h:∀b off v,saf b off→w.cell? ⟨b,off,none⟩=some v→saf' b off∧w'.cell? ⟨b,off,none⟩=some v) {x:AVal} {v:Value} (hr:RepP w saf x v):RepP w' saf' x v:=by
 induction hr with
 |bool b=>exact .bool b
 |int k n=>exact .int k n
 |str s=>exact .str s
 |raw v h1=>exact .raw v h1
 |slice xs A len cap b off sz vs hl hc ha hz hs hr ih =>
  refine .slice xs A len cap b off sz vs hl hc ha hz (fun i x k c hx hk=>?_) (fun i x k c hx hk=>ih i x k c hx hk)
  obtain ⟨e,s⟩:=hs i x k c hx hk
  obtain ⟨s',e'⟩:=h _ _ _ s e
  exact ⟨e',s'⟩
def flatC:AVal→Bool
 | .int .. | .str _ | .bool _ | .slice .. | .any=>true
 |_=>false
def FlatM (M:AMem):Prop:=∀(i:Nat) (bx:ABox),M[i]?=some bx→(∃cs,bx=ABox.cells cs∧∀c,c∈cs→flatC c=true)∨∃sz n,bx=ABox.tick sz n
structure Chg (j:J) (M:AMem) (A B:World) (r:Nat→Prop):Prop where
 size:A.heap.size≤B.heap.size
 blk:∀b,b<A.heap.size→¬r b→B.heap[b]?=A.heap[b]?
 cell:∀b off v,r b→Saf j M A b off→A.cell? ⟨b,off,none⟩≠some v
 rng:∀i b,i<M.length→j i=some b→¬r b
section
variable {j:J} {M:AMem} {A B:World} {r:Nat→Prop}
theorem Chg.saf (c:Chg j M A B r):∀b off v,Saf j M A b off→A.cell? ⟨b,off,none⟩=some v→Saf j M B b off∧B.cell? ⟨b,off,none⟩=some v:=fun b off v hs hv =>
 ⟨⟨Nat.lt_of_lt_of_le hs.lt c.size,hs.ids,hs.nx⟩,by rw [World.cell?_of_block (c.blk b hs.lt fun h=>c.cell b off v h hs hv)]; exact hv⟩
theorem Chg.rep (c:Chg j M A B r) (hr:Rel j M A) {x:AVal} {v:Value} (hx:flatC x=true) (h:Rep j M A x v):Rep j M B x v:=by
 cases h with
 |plain h=>exact .plain (repP_mono' c.saf h)
 |c0 A=>exact .c0 A
 |any v=>exact .any v
 |own hk hn h ht =>
  refine .own hk hn (repP_mono' c.saf h) fun e=>?_
  rcases ht e with h|⟨b,cap,vs,t,h1,h2,h3,h4⟩
  ·exact .inl h
  ·have hlt:=hr.lt _ _ (lt_of_some hk) h1
   exact .inr ⟨b,cap,vs,t,h1,h2,(c.blk b hlt (c.rng _ _ (lt_of_some hk) h1)).trans h3,h4⟩
 |_=>cases hx
theorem Chg.rel (c:Chg j M A B r) (hM:FlatM M) (hr:Rel j M A):Rel j M B where
 inj:=hr.inj
 lt:=fun i b hi hj=>Nat.lt_of_lt_of_le (hr.lt i b hi hj) c.size
 fix:=fun i bx h hf=>by
  obtain ⟨b,h1,h2⟩:=hr.fix i bx h hf
  refine ⟨b,h1,?_⟩
  have hlt:=hr.lt i b (lt_of_some h) h1
  have hb:=c.blk b hlt (c.rng i b (lt_of_some h) h1)
  rcases hM i bx h with ⟨cs,rfl,hcs⟩|⟨sz,n,rfl⟩
  ·obtain ⟨vs,t,h3,h4,h5⟩:=h2
   exact ⟨vs,t,hb.trans h3,h4,fun q x v hx hv=>c.rep hr (hcs x (List.mem_of_getElem? hx)) (h5 q x v hx hv)⟩
  ·trivial
 tick:=fun i sz n b h hj=>by
  obtain ⟨vs,t,h1⟩:=hr.tick i sz n b h hj
  exact ⟨vs,t,(c.blk b (hr.lt i b (lt_of_some h) hj) (c.rng i b (lt_of_some h) hj)).trans h1⟩
 arr:=fun i sz ver xs h=>by
  rcases hM i _ h with ⟨cs,h,_⟩|⟨sz,n,h⟩<;>cases h
 xdis:=hr.xdis
 xlt:=fun b off hx=>Nat.lt_of_lt_of_le (hr.xlt b off hx) c.size
theorem Chg.glob (c:Chg j M A B r) (hG:Glob j M A) (h0:∀b vs,Globs.g b=some vs→¬r b):Glob j M B where
 g:=fun b vs k v hb hk=>let ⟨h1,h2⟩:=hG.g b vs k v hb hk; c.saf b k v h1 h2
 n:=fun b vs hb=>by
  obtain ⟨us,t,fr,h1,h2⟩:=hG.n b vs hb
  exact ⟨us,t,fr,(c.blk b (lt_of_block h1) (h0 b vs hb)).trans h1,h2⟩
 q:=fun b p hb=>by
  obtain ⟨v,h0,h1,h2⟩:=hG.q b p hb
  obtain ⟨h3,h4⟩:=c.saf b 0 v h1 h2
  exact ⟨v,h0,h3,h4⟩
end
theorem flat_Mh (evs:List Event):FlatM (Mh evs):=by
 intro i bx h
 match i,h with
 |0,h=>cases h; exact .inl ⟨_,rfl,fun c hc=>by simp at hc; subst hc; rfl⟩
 |1,h=>cases h; exact .inl ⟨_,rfl,fun c hc=>by simp at hc; subst hc; rfl⟩
 |2,h=>cases h; exact .inl ⟨_,rfl,fun c hc=>by simp at hc; subst hc; rfl⟩
 |3,h=>cases h; exact .inr ⟨_,_,rfl⟩
 |n+4,h=>cases h
def evGo:List BytesL→Option (List Event)
 | []=>some []
 |x::r=>if x=[] then evGo r else if (evOf x).2=true then (evGo r).map ((evOf x).1 :: ·) else none
theorem evGo_app:∀a b:List BytesL,evGo (a++b)=(evGo a).bind fun l=>(evGo b).map (l ++ ·)
 | [],b=>by simp [evGo]
 |x::r,b=>by
  simp only [List.cons_append,evGo]
  split
  ·exact evGo_app r b
  ·split
   ·rw [evGo_app r b]
    cases evGo r with
    |none=>rfl
    |some l=>simp; rfl
   ·rfl
theorem evGo_len:∀ {a:List BytesL} {l:List Event},evGo a=some l→l.length≤a.length
 | [],l,h=>by simp [evGo] at h; subst h; simp
 |x::r,l,h=>by
  simp only [evGo] at h
  split at h
  ·have:=evGo_len h; simp; omega
  ·split at h
   ·obtain ⟨l',h1,rfl⟩:=Option.map_eq_some_iff.1 h
    have:=evGo_len h1; simp; omega
   ·cases h
def rdHist (s:BytesL):List Event×Int:=match evGo (cutL 10 s) with
 |none=>([],11)
 |some l=>if histN l=s then (l,0) else ([],11)
structure InvH (j:J) (w:World) (pre:List BytesL) (evs:List Event) (jx:J) (W:World):Prop where
 go:evGo pre=some evs
 rel:Rel jx (Mh evs) W
 gl:Glob jx (Mh evs) W
 X:∀b off,jx.X b off↔j.X b off∨(w.heap.size+3≤b∧b<w.heap.size+6)
 j0:jx 0=some w.heap.size
 j1:jx 1=some (w.heap.size+1)
 j2:jx 2=some (w.heap.size+2)
 j3:∀b,jx 3=some b→w.heap.size≤b
 below:Below w.heap.size w W
 sz:w.heap.size+6≤W.heap.size
end Go.Proofs.YtannopdcbocngaaGreatDoor
namespace Go.Proofs.YtannopdcbocngaaGreatDoor
open Go Go.Abs Go.RowKit Go.Shelf
theorem cell_none {A:World} {b off:Nat} {o:Obj} (h:A.heap[b]?=some o) (ho:o.isCells=false) (v:Value):A.cell? ⟨b,off,none⟩≠some v:=by
 intro e
 simp only [World.cell?,h] at e
 cases o<;>simp_all [Obj.isCells]
section
variable {j jx:J} {w A B:World} {pre:List BytesL} {evs:List Event}
theorem InvH.cells (hI:InvH j w pre evs jx A):∀i b,i<4→jx i=some b→∃vs t,A.heap[b]?=some (.cells vs t (0,0)):=by
 intro i b hi hj
 match i,hi with
 |0,_=>obtain ⟨b',vs,t,h1,h2,_⟩:=hI.rel.box 0 _ rfl; rw [hj] at h1; cases h1; exact ⟨vs,t,h2⟩
 |1,_=>obtain ⟨b',vs,t,h1,h2,_⟩:=hI.rel.box 1 _ rfl; rw [hj] at h1; cases h1; exact ⟨vs,t,h2⟩
 |2,_=>obtain ⟨b',vs,t,h1,h2,_⟩:=hI.rel.box 2 _ rfl; rw [hj] at h1; cases h1; exact ⟨vs,t,h2⟩
 |3,_=>exact hI.rel.tick 3 _ _ b rfl hj
theorem InvH.chg (hI:InvH j w pre evs jx A) (hG:Glob j [] w) {r:Nat→Prop} (c:Chg jx (Mh evs) A B r) (hr:∀b,r b→w.heap.size≤b) (ho:B.os=A.os) (ht:B.tape=A.tape) (hp:B.output=A.output):InvH j w pre evs jx B where
 go:=hI.go
 rel:=c.rel (flat_Mh evs) hI.rel
 gl:=c.glob hI.gl fun b vs hb hrb=>by
  obtain ⟨us,t,fr,h1,_⟩:=hG.n b vs hb
  have:=lt_of_block h1
  have:=hr b hrb
  omega
 X:=hI.X
 j0:=hI.j0
 j1:=hI.j1
 j2:=hI.j2
 j3:=hI.j3
 below:=⟨ho.trans hI.below.os,ht.trans hI.below.tape,hp.trans hI.below.output,Nat.le_trans hI.below.size c.size,fun k hk=>by
  have:=hI.below.size
  rw [c.blk k (by omega) fun h=>by have:=hr k h; omega]
  exact hI.below.block k hk⟩
 sz:=Nat.le_trans hI.sz c.size
theorem InvH.own (hG:Glob j [] w):OwnFrom (w.heap.size+6) (fun pre W=>∃evs jx,InvH j w pre evs jx W):=by
 rintro s A B row ⟨evs,jx,hI⟩ hg hr
 refine ⟨evs,jx,hI.chg hG (r:=fun b=>some b=row) ⟨hg.size,fun b hb hn=>hg.block b hb hn,?_,?_⟩ ?_ hg.os hg.tape hg.output⟩
 ·intro b off v e _
  obtain ⟨_,o,h1,h2⟩:=hr b e.symm
  exact cell_none h1 h2 v
 ·intro i b hi hj e
  obtain ⟨_,o,h1,h2⟩:=hr b e.symm
  obtain ⟨vs,t,h3⟩:=hI.cells i b hi hj
  rw [h3] at h1; cases h1; cases h2
 ·intro b e
  obtain ⟨h1,_⟩:=hr b e.symm
  omega
theorem InvH.cell (hG:Glob j [] w) (s:List BytesL) (A:World) (v:Value) (h:∃evs jx,InvH j w s evs jx A):∃evs jx,InvH j w s evs jx (A.setCell ⟨w.heap.size+3,0,none⟩ v):=by
 obtain ⟨evs,jx,hI⟩:=h
 have hg:=grownBy_setCell' A (w.heap.size+3) v
 have hX:∀off,jx.X (w.heap.size+3) off:=fun off=>(hI.X _ _).2 (.inr (by omega))
 refine ⟨evs,jx,hI.chg hG (r:=fun b=>b=w.heap.size+3) ⟨hg.size,fun b hb hn=>hg.block b hb (fun e=>hn (by injection e)),?_,?_⟩ ?_ hg.os hg.tape hg.output⟩
 ·rintro b off v rfl hs
  exact absurd (hX off) hs.nx
 ·rintro i b hi hj rfl
  exact hI.rel.xdis i _ hi hj 0 (hX 0)
 ·intro b e; omega
theorem InvH.out {j':J} {M':AMem} {W':World} (hI:InvH j w pre evs jx A) (hx:Ext jx (Mh evs) A j' M' W'):KeepsOthers A W'∧Kp (w.heap.size+3) A W'∧Below w.heap.size w W':=by
 have hold:∀b,b<A.heap.size→(∀vs t,A.heap[b]?≠some (.cells vs t (0,0)))→W'.heap[b]?=A.heap[b]?:=fun b hb hn=>(hx.old b hb fun i hi hj=>by
  obtain ⟨vs,t,h⟩:=hI.cells i b hi hj
  exact hn vs t h).1
 have hXb:∀b,w.heap.size+3≤b→b<w.heap.size+6→W'.heap[b]?=A.heap[b]?:=fun b h1 h2=>(hx.old b (by have:=hI.sz; omega) fun i hi hj=>hI.rel.xdis i b hi hj 0 ((hI.X b 0).2 (.inr ⟨h1,h2⟩))).1
 refine ⟨⟨hx.size,fun k o hk ho=>?_⟩,⟨hXb _ (by omega) (by omega),hXb _ (by omega) (by omega),hXb _ (by omega) (by omega)⟩,⟨hx.os.trans hI.below.os,hx.tape.trans hI.below.tape,hx.output.trans hI.below.output,Nat.le_trans hI.below.size hx.size,fun k hk=>?_⟩⟩
 ·rw [hold k (lt_of_block hk) fun vs t h=>by rw [hk] at h; cases h; cases ho]
  exact hk
 ·have:=hI.below.size
  rw [(hx.old k (by omega) fun i hi hj=>?_).1]
  ·exact hI.below.block k hk
  ·match i,hi with
   |0,_=>rw [hI.j0] at hj; injection hj with hj; omega
   |1,_=>rw [hI.j1] at hj; injection hj with hj; omega
   |2,_=>rw [hI.j2] at hj; injection hj with hj; omega
   |3,_=>have:=hI.j3 k hj; omega
theorem backM_Mh (evs:List Event) (m:AMem):backM 4 (Mh evs++m)=Mh evs:=rfl
theorem InvH.round {j':J} {m:AMem} {W':World} {evs':List Event} {x:BytesL} (hI:InvH j w pre evs jx A) (hgo:evGo (pre++[x])=some evs') (hr:Rel j' (Mh evs'++m) W') (hx:Ext jx (Mh evs) A j' (Mh evs'++m) W') :
  InvH j w (pre++[x]) evs' j' W':=by
 have hb:Rel j' (backM 4 (Mh evs'++m)) W':=back_rel (by simp [Mh]) hr
 have hx4:Ext jx (Mh evs) A j' (backM 4 (Mh evs'++m)) W':=back_ext (by simp [Mh]) rfl hx
 rw [backM_Mh] at hb hx4
 obtain ⟨_,_,hbel⟩:=hI.out hx
 refine ⟨hgo,hb,hI.gl.mono hx4,fun b off=>by rw [hx.X]; exact hI.X b off,?_,?_,?_,?_,hbel,Nat.le_trans hI.sz hx.size⟩
 ·rw [(hx.fix 0 _ rfl rfl).1]; exact hI.j0
 ·rw [(hx.fix 1 _ rfl rfl).1]; exact hI.j1
 ·rw [(hx.fix 2 _ rfl rfl).1]; exact hI.j2
 ·intro b hb3
  rcases Nat.lt_or_ge b w.heap.size with h|h
  ·exfalso
   have:=hI.below.size
   refine (hx4.old b (by omega) fun i hi hj=>?_).2 3 (by simp [Mh]) hb3
   match i,hi with
   |0,_=>rw [hI.j0] at hj; injection hj with hj; omega
   |1,_=>rw [hI.j1] at hj; injection hj with hj; omega
   |2,_=>rw [hI.j2] at hj; injection hj with hj; omega
   |3,_=>have:=hI.j3 b hj; omega
  ·exact h
end
structure OutH (w:World) (c:Code) (pre:List BytesL) (W:World):Prop where
 ret:c = .ret
 bad:evGo pre=none
 r0:∃A t,W.heap[w.heap.size]?=some (.cells #[.slice A 0 0] t (0,0))
 r1:∃t,W.heap[w.heap.size+1]?=some (.cells #[.int .i64 11] t (0,0))
 below:Below w.heap.size w W
theorem OutH.own {w:World} (c:Code):OwnFrom (w.heap.size+6) (OutH w c):=by
 intro s A B row hs hg hr
 have hk:∀(b:Nat) (vs:Array Value) (t:TypeId),A.heap[b]?=some (Obj.cells vs t (0,0))→B.heap[b]?=some (Obj.cells vs t (0,0)):=fun b vs t h=>by
  rw [hg.block b (lt_of_block h) fun e=>by
   obtain ⟨_,o,h1,h2⟩:=hr b e.symm
   rw [h] at h1; cases h1; cases h2]
  exact h
 obtain ⟨A0,t0,h0⟩:=hs.r0
 obtain ⟨t1,h1⟩:=hs.r1
 refine ⟨hs.ret,hs.bad,⟨A0,t0,hk _ _ _ h0⟩,⟨t1,hk _ _ _ h1⟩,⟨hg.os.trans hs.below.os,hg.tape.trans hs.below.tape,hg.output.trans hs.below.output,Nat.le_trans hs.below.size hg.size,fun k hk'=>?_⟩⟩
 have:=hs.below.size
 rw [hg.block k (by omega) fun e=>by obtain ⟨h2,_⟩:=hr k e.symm; omega]
 exact hs.below.block k hk'
end Go.Proofs.YtannopdcbocngaaGreatDoor
namespace Go.Proofs.YtannopdcbocngaaGreatDoor
open Go Go.Abs Go.RowKit Go.Shelf
attribute [local go_sem] Oper.semAt_some
abbrev seqW (w:World) (s:BytesL):World:=((w.alloc (.cells #[.string (bs s)] 9)).alloc (.cells #[.string ⟨#[10]⟩] 9)).alloc (.cells #[.int .i64 0] 3)
abbrev seqV (h:Nat):Value := .func (.func 140) #[] #[.pointer (some ⟨h+1,0,none⟩),.pointer (some ⟨h,0,none⟩),.pointer (some ⟨h+2,0,none⟩)]
set_option maxHeartbeats 1000000 in
theorem seq99 (n:Nat) (s:BytesL) (w:World) :
  CallsIn Fence.wide n Tryz.prog 99 #[.string (bs s),.string ⟨#[10]⟩,.int .i64 0] w fun e w'=>e = .returned (seqV w.heap.size)∧w'=seqW w s:=by
 refine callsIn_of_wp Tryz.func99 rfl trivial ?_ rfl
 simp only [Tryz.ntmps99,List.size_toArray,List.length_cons,List.length_nil,Nat.reduceAdd,Nat.reduceSub,Array.replicate_succ,Array.replicate_zero,List.push_toArray,List.append_toArray,List.nil_append,List.cons_append]
 gi_wp2
 go_ret
 simp [seqV,seqW]
set_option maxHeartbeats 1000000 in
theorem seq67 (n:Nat) (s:BytesL) (w:World) :
  CallsIn Fence.wide n Tryz.prog 67 #[.string (bs s),.string ⟨#[10]⟩] w fun e w'=>e = .returned (seqV w.heap.size)∧w'=seqW w s:=by
 refine callsIn_of_wp Tryz.func67 rfl trivial ?_ rfl
 simp only [Tryz.ntmps67,List.size_toArray,List.length_cons,List.length_nil,Nat.reduceAdd,Nat.reduceSub,Array.replicate_succ,Array.replicate_zero,List.push_toArray,List.append_toArray,List.nil_append,List.cons_append]
 gi_wp2
 refine ⟨trivial,fun h=>(by cases h),(seq99 _ s _).mono ?_⟩
 rintro e w' ⟨rfl,rfl⟩
 gi_wp2
 go_ret
 exact ⟨rfl,rfl⟩
abbrev startW (w:World) (s:BytesL):World:=seqW (((w.alloc (.cells #[.slice none 0 0] 29)).alloc (.cells #[.int .i64 0] 25)).alloc (.cells #[.slice none 0 0] 29)) s
theorem startW_boxes (w:World) (s:BytesL):(startW w s).heap.size=w.heap.size+6∧Boxed (startW w s) w.heap.size 29 (.slice none 0 0)∧Boxed (startW w s) (w.heap.size+1) 25 (.int .i64 0)∧Boxed (startW w s) (w.heap.size+2) 29 (.slice none 0 0) ∧
  Boxed (startW w s) (w.heap.size+3) 9 (.string (bs s))∧Boxed (startW w s) (w.heap.size+4) 9 (.string ⟨#[10]⟩)∧Boxed (startW w s) (w.heap.size+5) 3 (.int .i64 0)∧Below w.heap.size w (startW w s):=by
 have b0:=Boxed.new w 29 (.slice none 0 0)
 have b1:=Boxed.new (w.alloc (.cells #[.slice none 0 0] 29)) 25 (.int .i64 0)
 have b2:=Boxed.new ((w.alloc (.cells #[.slice none 0 0] 29)).alloc (.cells #[.int .i64 0] 25)) 29 (.slice none 0 0)
 have b3:=Boxed.new (((w.alloc (.cells #[.slice none 0 0] 29)).alloc (.cells #[.int .i64 0] 25)).alloc (.cells #[.slice none 0 0] 29)) 9 (.string (bs s))
 have b4:=Boxed.new ((((w.alloc (.cells #[.slice none 0 0] 29)).alloc (.cells #[.int .i64 0] 25)).alloc (.cells #[.slice none 0 0] 29)).alloc (.cells #[.string (bs s)] 9)) 9 (.string ⟨#[10]⟩)
 have b5:=Boxed.new (((((w.alloc (.cells #[.slice none 0 0] 29)).alloc (.cells #[.int .i64 0] 25)).alloc (.cells #[.slice none 0 0] 29)).alloc (.cells #[.string (bs s)] 9)).alloc (.cells #[.string ⟨#[10]⟩] 9)) 3 (.int .i64 0)
 simp only [World.size_alloc] at b1 b2 b3 b4 b5
 refine ⟨by simp [startW,seqW],((((b0.alloc _).alloc _).alloc _).alloc _).alloc _,(((b1.alloc _).alloc _).alloc _).alloc _,((b2.alloc _).alloc _).alloc _,(b3.alloc _).alloc _,b4.alloc _,b5,?_⟩
 have hB2:Below w.heap.size w ((w.alloc (.cells #[.slice none 0 0] 29)).alloc (.cells #[.int .i64 0] 25)):=((Below.refl _ w).alloc (Nat.le_refl _) _).alloc (by simp) _
 exact (((hB2.alloc (by simp; omega) _).alloc (by simp; omega) _).alloc (by simp; omega) _).alloc (by simp; omega) _
def jS (j:J) (h:Nat):J:=⟨fun i=>match i with|0=>some h|1=>some (h+1)|2=>some (h+2)|_=>none,fun b off=>j.X b off∨(h+3≤b∧b<h+6)⟩
theorem jS_at {j:J} {h i b:Nat} (hj:jS j h i=some b):b=h+i∧i<3:=by
 match i,hj with
 |0,hj=>simp [jS] at hj; omega
 |1,hj=>simp [jS] at hj; omega
 |2,hj=>simp [jS] at hj; omega
 |n+3,hj=>cases hj
theorem InvH.start {j:J} {w:World} (hr:Rel j [] w) (hG:Glob j [] w) (s:BytesL):InvH j w [] [] (jS j w.heap.size) (startW w s):=by
 obtain ⟨hsz,b0,b1,b2,_,_,_,hB⟩:=startW_boxes w s
 generalize startW w s=W at hsz b0 b1 b2 hB
 refine ⟨rfl,?_,?_,fun b off=>Iff.rfl,rfl,rfl,rfl,fun b h=>(by cases h),hB,by omega⟩
 ·refine ⟨?_,?_,?_,?_,?_,?_,?_⟩
  ·intro i i' b hi hi' h1 h2
   have:=jS_at h1; have:=jS_at h2; omega
  ·intro i b hi h1
   have:=jS_at h1; omega
  ·intro i bx h hf
   match i,h with
   |0,h=>cases h; exact ⟨_,rfl,_,_,b0,rfl,fun q c v hc hv=>by
     match q,hc,hv with
     |0,hc,hv=>cases hc; cases hv; exact .c0 _
     |q+1,hc,hv=>cases hc⟩
   |1,h=>cases h; exact ⟨_,rfl,_,_,b1,rfl,fun q c v hc hv=>by
     match q,hc,hv with
     |0,hc,hv=>cases hc; cases hv; exact .plain (.int _ _)
     |q+1,hc,hv=>cases hc⟩
   |2,h=>cases h; exact ⟨_,rfl,_,_,b2,rfl,fun q c v hc hv=>by
     match q,hc,hv with
     |0,hc,hv=>cases hc; cases hv; exact .own (sz:=17) (n:=0) rfl (Nat.le_refl _) (RepP.nil _ _ _) fun _ => .inl ⟨rfl,rfl,_,rfl⟩
     |q+1,hc,hv=>cases hc⟩
   |3,h=>cases h; cases hf
  ·intro i sz n b h hj
   match i,h with
   |3,h=>cases hj
  ·intro i sz ver xs h
   match i,h with
   |n+4,h=>cases h
  ·intro i b hi h1 off hx
   have hx':j.X b off∨(w.heap.size+3≤b∧b<w.heap.size+6):=hx
   have:=jS_at h1
   rcases hx' with h|h
   ·have:=hr.xlt b off h; omega
   ·omega
  ·intro b off hx
   have hx':j.X b off∨(w.heap.size+3≤b∧b<w.heap.size+6):=hx
   rcases hx' with h|h
   ·have:=hr.xlt b off h; omega
   ·omega
 ·have key:∀b off,Saf j [] w b off→Saf (jS j w.heap.size) (Mh []) W b off:=fun b off h=>by
   have hlt:=h.lt
   refine ⟨by omega,fun id hid hj=>?_,fun hx=>?_⟩
   ·have:=jS_at hj; omega
   ·have hx':j.X b off∨(w.heap.size+3≤b∧b<w.heap.size+6):=hx
    rcases hx' with h'|h'
    ·exact h.nx h'
    ·omega
  have kc:∀b off,b<w.heap.size→W.cell? ⟨b,off,none⟩=w.cell? ⟨b,off,none⟩:=fun b off h=>World.cell?_of_block (hB.block b h)
  refine ⟨fun b vs k v hb hk=>?_,fun b vs hb=>?_,fun b p hb=>?_⟩
  ·obtain ⟨h1,h2⟩:=hG.g b vs k v hb hk
   exact ⟨key _ _ h1,(kc _ _ h1.lt).trans h2⟩
  ·obtain ⟨us,t,fr,h1,h2⟩:=hG.n b vs hb
   exact ⟨us,t,fr,(hB.block b (lt_of_block h1)).trans h1,h2⟩
  ·obtain ⟨v,h0,h1,h2⟩:=hG.q b p hb
   exact ⟨v,h0,key _ _ h1,(kc _ _ h1.lt).trans h2⟩
theorem Kp.trans {b0:Nat} {A B C:World} (h:Kp b0 A B) (k:Kp b0 B C):Kp b0 A C:=⟨k.k0.trans h.k0,k.k1.trans h.k1,k.k2.trans h.k2⟩
abbrev actB (w:World) (s x:BytesL):Act:={ tmps := #[.string (bs s),undef,.pointer (some ⟨w.heap.size,0,none⟩),.pointer (some ⟨w.heap.size+1,0,none⟩),.pointer (some ⟨w.heap.size+1+1,0,none⟩),.string (bs x),undef,undef,.string (bs s),seqV (w.heap.size+1+1+1),.string (bs x),
   undef,undef,undef,undef,undef,undef,undef,undef,undef,undef,undef,undef,undef,undef,undef,undef,undef,undef],defers:=[] }
theorem envB {j jx:J} {w W:World} {pre:List BytesL} {evs:List Event} (hI:InvH j w pre evs jx W) (s x:BytesL):EnvRep jx (Mh evs) W (Eh s x) (actB w s x):=by
 refine ⟨fun t=>?_,hI.gl⟩
 match t with
 |0=>exact .plain (.str s)
 |1=>exact .any _
 |2=>exact .ptr (by simp [Mh]) ⟨_,rfl⟩ hI.j0
 |3=>exact .ptr (by simp [Mh]) ⟨_,rfl⟩ hI.j1
 |4=>exact .ptr (by simp [Mh]) ⟨_,rfl⟩ hI.j2
 |5=>exact .plain (.str x)
 |t+6 =>
  have:getS (Eh s x) (t+6) = .any:=by simp [Eh,getS]
  rw [this]; exact .any _
theorem evGo_ok:∀ {a:List BytesL} {l:List Event},evGo a=some l→(∀x,x∈a→x.length≤900000)→∀e,e∈l→EvOk e
 | [],l,h,_,e,he=>by simp [evGo] at h; subst h; cases he
 |x::r,l,h,hb,e,he=>by
  simp only [evGo] at h
  split at h
  ·exact evGo_ok h (fun y hy=>hb y (List.mem_cons_of_mem _ hy)) e he
  ·split at h
   ·obtain ⟨l',h1,rfl⟩:=Option.map_eq_some_iff.1 h
    rcases List.mem_cons.1 he with rfl|he
    ·exact evOf_ok (hb x (by simp))
    ·exact evGo_ok h1 (fun y hy=>hb y (List.mem_cons_of_mem _ hy)) e he
   ·cases h
theorem evGo_pre {a l:List BytesL} (h:a <+: l) (hn:evGo a=none):evGo l=none:=by
 obtain ⟨b,rfl⟩:=h
 rw [evGo_app,hn]; rfl
theorem mix28:Tryz.prog.follows .mixedOrders=true:=by kernel_rfl
theorem roundH {j jx:J} {w W:World} {pre:List BytesL} {evs:List Event} (l nd:Nat) (s x:BytesL) (hx:x.length≤900000) (hne:evs.length≤1000000) (hI:InvH j w pre evs jx W) :
  (rfB Tryz.f28).wpIn (Wd (some l)) nd Tryz.prog (fun e a' W'=>KeepsOthers W W'∧((e = .normal∧Kp (w.heap.size+3) W W'∧∃evs jx,InvH j w (pre++[x]) evs jx W')∨(e = .ret∧OutH w .ret (pre++[x]) W'))) (actB w s x) W:=by
 by_cases h0:x=[]
 ·subst h0
  obtain ⟨env,hex⟩:=round_skip s evs
  refine wpIn_mono (code_sound (rd:=some l) (nd:=nd) mix28 sound (rfB Tryz.f28) ok28b hex hI.rel hI.gl (envB hI s []) rfl) ?_
  rintro e a' W' ⟨rfl,_,_,j',hr',_,hx'⟩
  obtain ⟨k1,k2,k3⟩:=hI.out hx'
  refine ⟨k1,.inl ⟨rfl,k2,evs,j',?_⟩⟩
  refine InvH.round (m:=[]) hI ?_ (by rw [List.append_nil]; exact hr') (by rw [List.append_nil]; exact hx')
  rw [evGo_app,hI.go]; simp [evGo]
 ·cases hb:(evOf x).2 with
  |false =>
   obtain ⟨env,m,hex⟩:=round_bad s x evs h0 hx hb
   refine wpIn_mono (code_sound (rd:=some l) (nd:=nd) mix28 sound (rfB Tryz.f28) ok28b hex hI.rel hI.gl (envB hI s x) rfl) ?_
   rintro e a' W' ⟨rfl,_,_,j',hr',_,hx'⟩
   obtain ⟨k1,k2,k3⟩:=hI.out hx'
   have hj0:j' 0=some w.heap.size:=(hx'.fix 0 _ rfl rfl).1.trans hI.j0
   have hj1:j' 1=some (w.heap.size+1):=(hx'.fix 1 _ rfl rfl).1.trans hI.j1
   refine ⟨k1,.inr ⟨rfl,rfl,?_,?_,?_,k3⟩⟩
   ·rw [evGo_app,hI.go]; simp [evGo,h0,hb]
   ·obtain ⟨b,vs,t,h1,h2,h3,h4⟩:=hr'.box 0 _ rfl
    rw [hj0] at h1; cases h1
    obtain ⟨vs⟩:=vs
    match vs,h3 with
    | [v],_ =>
     have:=h4 0 _ v rfl rfl
     cases this with
     |plain h=>cases h
     |c0 A=>exact ⟨A,t,h2⟩
   ·obtain ⟨b,vs,t,h1,h2,h3,h4⟩:=hr'.box 1 _ rfl
    rw [hj1] at h1; cases h1
    obtain ⟨vs⟩:=vs
    match vs,h3 with
    | [v],_ =>
     have:=h4 0 _ v rfl rfl
     cases this with
     |plain h=>cases h; exact ⟨t,h2⟩
  |true =>
   obtain ⟨env,m,hex⟩:=round_good s x evs h0 hx hb hne
   refine wpIn_mono (code_sound (rd:=some l) (nd:=nd) mix28 sound (rfB Tryz.f28) ok28b hex hI.rel hI.gl (envB hI s x) rfl) ?_
   rintro e a' W' ⟨rfl,_,_,j',hr',_,hx'⟩
   obtain ⟨k1,k2,k3⟩:=hI.out hx'
   refine ⟨k1,.inl ⟨rfl,k2,_,j',InvH.round hI ?_ hr' hx'⟩⟩
   rw [evGo_app,hI.go]; simp [evGo,h0,hb]
theorem boxed_put {W:World} {B D:Nat} {t:TypeId} {v:Value} {x:Option (List Deferred)} {o:Obj} (h:Boxed W B t v) (hD:W.heap[D]?=some (.deferred x)):Boxed (W.putObj D o) B t v :=
 (World.putObj_heap_other (fun e=>by subst e; rw [show W.heap[B]?=_ from h] at hD; cases hD)).trans h
theorem below_put {w W:World} {D:Nat} {o:Obj} (h:Below w.heap.size w W) (hD:w.heap.size≤D):Below w.heap.size w (W.putObj D o) :=
 ⟨h.os,h.tape,h.output,by simpa [World.putObj] using h.size,fun k hk=>(World.putObj_heap_other (by omega)).trans (h.block k hk)⟩
theorem results28 {W:World} {b:Nat} {v u:Value} {t t':TypeId} {tmps:Array Value} (h2:tmps[2]?=some (.pointer (some ⟨b,0,none⟩))) (h3:tmps[3]?=some (.pointer (some ⟨b+1,0,none⟩))) (hv:Boxed W b t v) (hu:Boxed W (b+1) t' u):(results Tryz.f28 tmps).run Tryz.prog W = .ok (.tuple #[v,u]) W:=by
 have c0:=hv.cell
 have c1:=hu.cell
 simp [results,Tryz.f28,go_sem,c0,c1,h2,h3]
theorem leaves_mark {F:Fence} {n:Nat} {P:Program} {fn:Func} {tmps:Array Value} {R:Ending→World→Prop} {D:Nat} {W W':World} {v:Value} (hD:(Instr.takeDeferred D).run P W = .ok [] W') (hv:(results fn tmps).run P W' = .ok v W') (hR:R (.returned v) W') :
  LeavesInM F n P fn tmps R [{ target := .collected D,args := #[] }] .returning W :=
 ⟨by simp,.inl ⟨D,W',rfl,hD,⟨v,hv,hR⟩⟩⟩
abbrev actR (w:World) (s:BytesL) (ds:List Deferred):Act:={ tmps := #[.string (bs s),undef,.pointer (some ⟨w.heap.size,0,none⟩),.pointer (some ⟨w.heap.size+1,0,none⟩),.pointer (some ⟨w.heap.size+1+1,0,none⟩),undef,undef,undef,.string (bs s),seqV (w.heap.size+1+1+1),undef,
   undef,undef,undef,undef,undef,undef,undef,undef,undef,undef,undef,undef,undef,undef,undef,undef,undef,undef],defers:=ds }
theorem envR {j jx:J} {w W:World} {pre:List BytesL} {evs:List Event} (hI:InvH j w pre evs jx W) (s:BytesL) (ds:List Deferred):EnvRep jx (Mh evs) W (Er s) (actR w s ds):=by
 refine ⟨fun t=>?_,hI.gl⟩
 match t with
 |0=>exact .plain (.str s)
 |1=>exact .any _
 |2=>exact .ptr (by simp [Mh]) ⟨_,rfl⟩ hI.j0
 |3=>exact .ptr (by simp [Mh]) ⟨_,rfl⟩ hI.j1
 |4=>exact .ptr (by simp [Mh]) ⟨_,rfl⟩ hI.j2
 |t+5 =>
  have:getS (Er s) (t+5) = .any:=by simp [Er,getS]
  rw [this]; exact .any _
theorem finH {j jx j':J} {w W W':World} {pre:List BytesL} {evs:List Event} {tk:Tk} {l:List AVal} {er:Int} {m:AMem} (hI:InvH j w pre evs jx W) (hr:Rel j' (.cells [.slice tk l] :: .cells [.int .i64 er]::m) W') (hx:Ext jx (Mh evs) W j' (.cells [.slice tk l] :: .cells [.int .i64 er]::m) W') :
  ∃v t t',Boxed W' w.heap.size t v∧Boxed W' (w.heap.size+1) t' (.int .i64 er)∧∀D:Nat,W'.heap[D]?=some (.deferred (some []))→Rep j [] (W'.putObj D (.deferred none)) (.tuple [.slice .sh l,eI er]) (.tuple #[v,.int .i64 er]):=by
 have hj0:j' 0=some w.heap.size:=(hx.fix 0 _ rfl rfl).1.trans hI.j0
 have hj1:j' 1=some (w.heap.size+1):=(hx.fix 1 _ rfl rfl).1.trans hI.j1
 obtain ⟨b,vs,t,h1,h2,h3,h4⟩:=hr.box 0 _ rfl
 rw [hj0] at h1; cases h1
 obtain ⟨b',us,t',g1,g2,g3,g4⟩:=hr.box 1 _ rfl
 rw [hj1] at g1; cases g1
 obtain ⟨vs⟩:=vs
 obtain ⟨us⟩:=us
 match vs,us,h3,g3 with
 | [v],[u],_,_ =>
  have r0:=h4 0 _ v rfl rfl
  have r1:=g4 0 _ u rfl rfl
  have hu:u = .int .i64 er:=by
   cases r1 with
   |plain h=>cases h; rfl
  subst hu
  refine ⟨v,t,t',h2,g2,fun D hD => .tuple rfl fun i c x hc hv=>?_⟩
  match i,hc,hv with
  |0,hc,hv =>
   cases hc; cases hv
   refine .plain (repP_mono' ?_ r0.slice_inv)
   intro b off x hs hc
   have hne:b≠D:=fun e=>by subst e; exact cell_none hD rfl x hc
   refine ⟨⟨?_,fun id hid=>absurd hid (by simp),fun hX=>hs.nx (by rw [hx.X]; exact (hI.X b off).2 (.inl hX))⟩,?_⟩
   ·simpa [World.putObj] using hs.lt
   ·rw [World.cell?_of_block (World.putObj_heap_other hne)]; exact hc
  |1,hc,hv=>cases hc; cases hv; exact .plain (.int _ _)
  |i+2,hc,hv=>cases hc
theorem env_ptr {j:J} {M:AMem} {W:World} {env:Env} {a:Act} {t id h:Nat} (he:EnvRep j M W env a) (hs:a.tmps.size=29) (ht:t<29) (hg:getS env t = .ptr id 0) (hj:j id=some h):a.tmps[t]?=some (.pointer (some ⟨h,0,none⟩)):=by
 have h1:=he.at' t
 rw [hg] at h1
 obtain ⟨b,_,_,h2,h3⟩:=h1.ptr_inv
 rw [hj] at h2; cases h2
 rw [Array.getElem?_eq_getElem (by omega)]
 rw [←h3]
 simp [Array.getD,hs,ht]
set_option maxRecDepth 100000 in
set_option maxHeartbeats 2000000 in
theorem readHist_in (n:Nat) (hn:8≤n) (s:BytesL) (hs:s.length≤900000) (hN:(cutL 10 s).length≤100000) (j:J) (w:World) (hr:Rel j [] w) (hG:Glob j [] w) :
  CallsIn Fence.wide n Tryz.prog 28 #[.string (bs s)] w fun e W'=>∃v,e = .returned v∧Below w.heap.size w W'∧Rep j [] W' (.tuple [.slice .sh ((rdHist s).1.map eEv),eI (rdHist s).2]) v:=by
 have h1:1≤n:=by omega
 refine callsIn_of_wp_marks Tryz.func28 rfl trivial ?_ rfl
 simp only [Tryz.ntmps28,List.size_toArray,List.length_cons,List.length_nil,Nat.reduceAdd,Nat.reduceSub,Array.replicate_succ,Array.replicate_zero,List.push_toArray,List.append_toArray,List.nil_append,List.cons_append]
 gi_wp2
 refine ⟨trivial,(seq67 _ s _).mono ?_⟩
 rintro e w' ⟨rfl,rfl⟩
 gi_wp2
 rename_i Q0 K0 hK0
 obtain ⟨hsz,e0,e1,e2,b0,b1,b2,hB⟩:=startW_boxes w s
 have hst:=InvH.start hr hG s
 change Code.wpIn Fence.wide n Tryz.prog _ _ _ (startW w s)
 generalize startW w s=W4 at hsz e0 e1 e2 b0 b1 b2 hB hst ⊢
 have hpl:∀x,x∈cutL 10 s→x.length≤900000:=fun x hx=>Nat.le_trans (cutL_mem 10 s x hx) hs
 have hseq:SeqStopsC (w.heap.size+3) Fence.wide (n-1) Tryz.prog 140 #[.pointer (some ⟨w.heap.size+3+1,0,none⟩),.pointer (some ⟨w.heap.size+3,0,none⟩),.pointer (some ⟨w.heap.size+3+2,0,none⟩)] encS (Kp (w.heap.size+3)) (fun xs=>xs.map (·.1)=cutL 10 s) (fun pre=>pre.map (·.1) <+: cutL 10 s) (cutL 10 s).length W4 :=
  fun l J Jx W hW hJ hJx hJc hY h0=>iter140 (n-1) (by omega) l _ _ s (Nat.le_refl _) hs J Jx W hJ hJc hY ((hW.block _ (by omega)).trans b0) ((hW.block _ (by omega)).trans b1) ((hW.block _ (by omega)).trans b2) h0
 refine wpIn_rangeFunc_ownC (b0:=w.heap.size+3) (by omega) rfl h1 (gf:=140) (lb := #[.pointer (some ⟨w.heap.size+3+1,0,none⟩),.pointer (some ⟨w.heap.size+3,0,none⟩),.pointer (some ⟨w.heap.size+3+2,0,none⟩)]) rfl trivial (enters_of Tryz.func140 (by kernel_rfl) rfl) hseq
  Kp.trans (fun W l o o' hl _ _ _=>⟨World.putObj_heap_other (by omega),World.putObj_heap_other (by omega),World.putObj_heap_other (by omega)⟩) (Below.refl _ _) (fun _=>rfl)
  (fun pre W=>∃evs jx,InvH j w (pre.map (·.1)) evs jx W) (fun c pre W=>OutH w c (pre.map (·.1)) W) (by rw [hsz]; exact fun s A B row h hg hr=>InvH.own hG (s.map (·.1)) A B row h hg hr) (fun c=>by rw [hsz]; exact fun s A B row h hg hr=>OutH.own c (s.map (·.1)) A B row h hg hr) (fun s A v h=>InvH.cell hG (s.map (·.1)) A v h)
  ⟨_,_,hst⟩
  (fun x=>{ tmps := #[.string (bs s),undef,.pointer (some ⟨w.heap.size,0,none⟩),.pointer (some ⟨w.heap.size+1,0,none⟩),.pointer (some ⟨w.heap.size+1+1,0,none⟩),.string (bs x.1),undef,undef,.string (bs s),seqV (w.heap.size+1+1+1),.string (bs x.1),
   undef,undef,undef,undef,undef,undef,undef,undef,undef,undef,undef,undef,undef,undef,undef,undef,undef,undef],defers:=[] }) ?assign ?body ?done ?stop
 case assign =>
  intro l x W K hK
  gi_wp2
  exact hK
 case body =>
  rintro l pre ⟨x,hx⟩ W ⟨evs,jx,hI⟩ hlt
  have hle:=evGo_len hI.go
  refine wpIn_mono (c:=rfB Tryz.f28) (roundH l (n-1-1) s x hx (by simp at hle; omega) hI) ?_
  rintro e a' W' ⟨k1,⟨rfl,k2,k3⟩|⟨rfl,k2⟩⟩
  ·exact ⟨k1,k2,by simpa using k3⟩
  ·exact ⟨k1,by simpa using k2⟩
 case done =>
  rintro D xs W hD hS ⟨evs,jx,hI⟩ hm
  refine hK0 _ _ ?_
  have hok:=evGo_ok hI.go (fun x hx=>by
   obtain ⟨y,_,rfl⟩:=List.mem_map.1 hx
   exact y.2)
  have hle:=evGo_len hI.go
  have hgo:=hI.go
  rw [hS] at hgo hle
  by_cases hh:histN evs=s
  ·have hrd:rdHist s=(evs,0):=by unfold rdHist; rw [hgo]; simp [hh]
   obtain ⟨m,hex⟩:=rest_ok s evs hok (by omega) hh
   refine wpIn_mono (c:=rfR Tryz.f28) (code_sound (rd:=none) (nd:=n) mix28 sound (rfR Tryz.f28) ok28r hex hI.rel hI.gl (envR hI s _) rfl) ?_
   rintro e a' W' ⟨rfl,hsz',hdf,j',hr',hE',hx'⟩
   obtain ⟨k1,k2,k3⟩:=hI.out hx'
   obtain ⟨v,t,t',f1,f2,f3⟩:=finH hI hr' hx'
   have hm':=k1.same D _ hm rfl
   have hj0:j' 0=some w.heap.size:=(hx'.fix 0 _ rfl rfl).1.trans hI.j0
   have hj1:j' 1=some (w.heap.size+1):=(hx'.fix 1 _ rfl rfl).1.trans hI.j1
   have t2:=env_ptr hE' hsz' (t:=2) (by decide) rfl hj0
   have t3:=env_ptr hE' hsz' (t:=3) (by decide) rfl hj1
   change LeavesInM Fence.wide n _ _ a'.tmps _ a'.defers .returning W'
   rw [hdf]
   refine leaves_mark (run_takeDeferred hm') (results28 t2 t3 (boxed_put f1 hm') (boxed_put f2 hm')) ⟨_,rfl,below_put k3 (by omega),?_⟩
   rw [hrd]
   exact f3 D hm'
  ·have hrd:rdHist s=([],11):=by unfold rdHist; rw [hgo]; simp [hh]
   obtain ⟨m,hex⟩:=rest_bad s evs hok (by omega) hh
   refine wpIn_mono (c:=rfR Tryz.f28) (code_sound (rd:=none) (nd:=n) mix28 sound (rfR Tryz.f28) ok28r hex hI.rel hI.gl (envR hI s _) rfl) ?_
   rintro e a' W' ⟨rfl,hsz',hdf,j',hr',hE',hx'⟩
   obtain ⟨k1,k2,k3⟩:=hI.out hx'
   obtain ⟨v,t,t',f1,f2,f3⟩:=finH hI hr' hx'
   have hm':=k1.same D _ hm rfl
   have hj0:j' 0=some w.heap.size:=(hx'.fix 0 _ rfl rfl).1.trans hI.j0
   have hj1:j' 1=some (w.heap.size+1):=(hx'.fix 1 _ rfl rfl).1.trans hI.j1
   have t2:=env_ptr hE' hsz' (t:=2) (by decide) rfl hj0
   have t3:=env_ptr hE' hsz' (t:=3) (by decide) rfl hj1
   change LeavesInM Fence.wide n _ _ a'.tmps _ a'.defers .returning W'
   rw [hdf]
   refine leaves_mark (run_takeDeferred hm') (results28 t2 t3 (boxed_put f1 hm') (boxed_put f2 hm')) ⟨_,rfl,below_put k3 (by omega),?_⟩
   rw [hrd]
   exact f3 D hm'
 case stop =>
  rintro D c pre W hD hpre hOut hm
  obtain rfl:=hOut.ret
  have hrd:rdHist s=([],11):=by unfold rdHist; rw [evGo_pre hpre hOut.bad]
  obtain ⟨A0,t0,f1⟩:=hOut.r0
  obtain ⟨t1,f2⟩:=hOut.r1
  gi_wp2
  refine leaves_mark (run_takeDeferred hm) (results28 rfl rfl (boxed_put f1 hm) (boxed_put f2 hm)) ⟨_,rfl,below_put hOut.below (by omega),?_⟩
  refine .tuple rfl fun i c x hc hv=>?_
  match i,hc,hv with
  |0,hc,hv=>cases hc; cases hv; exact .plain (RepP.nil _ _ _)
  |1,hc,hv=>cases hc; cases hv; exact .plain (.int _ _)
  |i+2,hc,hv=>cases hc
def pReadHist:List AVal→AMem→Option (AVal×AMem)
 | [.str s],[]=>if s.length≤900000∧(cutL 10 s).length≤100000 then some (.tuple [.slice .sh ((rdHist s).1.map eEv),eI (rdHist s).2],[]) else none
 |_,_=>none
theorem readHists {args:List AVal} {M:AMem} {x:AVal×AMem} (h:pReadHist args M=some x):SoundCall Tryz.prog 28 args M x:=by
 unfold pReadHist at h
 split at h
 ·rename_i s
  split at h
  ·rename_i hs
   injection h with h; subst h
   intro j w vs hr hG hl hv
   obtain ⟨u,rfl⟩:=one_arg hl
   have h1:=(hv 0 _ u rfl rfl).str_inv
   subst h1
   refine (callsIn_wide.1 (readHist_in 8 (by omega) s hs.1 hs.2 j w hr hG)).mono ?_
   rintro e w' ⟨v,rfl,hb,hrep⟩
   exact ⟨v,j,rfl,hr.grow hb.size hb.os hb.tape hb.output hb.block,Ext.grow hb.size hb.os hb.tape hb.output hb.block,hrep⟩
  ·cases h
 ·cases h
noncomputable def primS (f:Nat):Option (List AVal→AMem→Option (AVal×AMem)):=if f=28 then some pReadHist else prim f
noncomputable def tabS:Tab:=⟨code,primS⟩
theorem tabS_ok:TabOk Tryz.prog tabS:=by
 refine ⟨code_ok,fun f g h args M x hx=>?_⟩
 simp only [tabS,primS] at h
 split at h
 ·rename_i hf
  injection h with h; subst h; subst hf
  exact ⟨by kernel_rfl,readHists hx⟩
 ·exact prim_ok f g h args M x hx
theorem tab_le:∀n,CallLe (acallN tab n) (acallN tabS n)
 |0,f,a,M,x,h=>by
  by_cases hf:f=28
  ·subst hf
   rw [acallN] at h
   cases h
  ·have hp:tabS.prim f=tab.prim f:=by simp [tabS,tab,primS,hf]
   rw [acallN] at h ⊢
   rw [hp]
   exact h
 |n+1,f,a,M,x,h=>by
  by_cases hf:f=28
  ·subst hf
   rw [acallN] at h
   cases h
  ·have hp:tabS.prim f=tab.prim f:=by simp [tabS,tab,primS,hf]
   rw [acallN] at h ⊢
   rw [hp]
   split at h
   ·rename_i g hg; exact h
   ·rename_i hg
    have hc:tabS.code f=tab.code f:=rfl
    rw [hc]
    split at h
    ·cases h
    ·rename_i fn hfn
     split at h
     ·rename_i hl
      simp only [if_pos hl]
      obtain ⟨o,ho,h⟩:=obind_inv h
      rw [aexec_mono (tab_le n) _ ho,obind_some]
      exact h
     ·cases h
theorem tab_leS {f:Nat} {a:List AVal} {M:AMem} {x:AVal×AMem} (h:acall tab f a M=some x):acall tabS f a M=some x:=by
 obtain ⟨n,hn⟩:=lim_ex h
 exact lim_some (fun n x h=>acallN_up tabS n f a M x h) (tab_le n f a M x hn)
end Go.Proofs.YtannopdcbocngaaGreatDoor
namespace Go.Abs
open Go
def ow {α:Type} (p:Prop) [Decidable p] (x:Option α):Option α:=if p then x else none
theorem ow_eq {α:Type} (p:Prop) [Decidable p] (x:Option α):ow p x=owhen p x:=by
 unfold ow
 split
 ·rename_i h; exact (owhen_pos h).symm
 ·rename_i h; rw [eq_false h]; exact (owhen_false x).symm
def widB (xs:List AVal) (sz:Nat):Bool:=xs.all fun x=>x.cells.length==sz
theorem widB_eq (xs:List AVal) (sz:Nat):(widB xs sz=true)=wid xs sz:=by
 simp [widB,wid]
instance (n b:Nat):Decidable (roomOk n b):=inferInstanceAs (Decidable (n*b≤2 ^ 44))
def sameL (f:AVal→AVal→Bool):List AVal→List AVal→Bool
 | [],[]=>true
 |a::r,b::s=>f a b&&sameL f r s
 |_,_=>false
theorem sameL_eq {f:AVal→AVal→Bool} (hf:∀a b,f a b=true→a=b):∀ {a b:List AVal},sameL f a b=true→a=b
 | [],[],_=>rfl
 |a::r,b::s,h=>by
  simp only [sameL,Bool.and_eq_true] at h
  rw [hf a b h.1,sameL_eq hf h.2]
 | [],_::_,h=>by cases h
 |_::_,[],h=>by cases h
def sameV:Nat→AVal→AVal→Bool
 |n+1,x,y=>match x,y with
  | .bool a,.bool b=>a==b
  | .int k a,.int l b=>decide (k=l)&&decide (a=b)
  | .str a,.str b=>decide (a=b)
  | .slice t a,.slice u b=>decide (t=u)&&sameL (sameV n) a b
  | .agg a,.agg b=>sameL (sameV n) a b
  | .tuple a,.tuple b=>sameL (sameV n) a b
  | .ptr a b,.ptr c d=>decide (a=c)&&decide (b=d)
  | .rptr a,.rptr b=>sameL (sameV n) a b
  | .func f a,.func g b=>decide (f=g)&&sameL (sameV n) a b
  | .mref a,.mref b=>decide (a=b)
  | .iref a,.iref b=>decide (a=b)
  | .fmap a b,.fmap c d=>sameL (sameV n) a c&&sameL (sameV n) b d
  | .aref a b c d e,.aref a' b' c' d' e'=>decide (a=a')&&decide (b=b')&&decide (c=c')&&decide (d=d')&&decide (e=e')
  | .eptr a b c d,.eptr a' b' c' d'=>decide (a=a')&&decide (b=b')&&decide (c=c')&&decide (d=d')
  | .mfn f a,.mfn g b=>decide (f=g)&&sameL (sameV n) a b
  | .bself a b,.bself c d=>decide (a=c)&&decide (b=d)
  | .obuf a b x l,.obuf c d y m=>decide (a=c)&&decide (b=d)&&(decide (x=y)&&decide (l=m))
  | .any,.any=>true
  |_,_=>false
 |0,_,_=>false
theorem sameV_eq:∀(n:Nat) (a b:AVal),sameV n a b=true→a=b
 |0,_,_,h=>by cases h
 |n+1,x,y,h=>by
  have hl:∀ {a b:List AVal},sameL (sameV n) a b=true→a=b:=fun h=>sameL_eq (sameV_eq n) h
  simp only [sameV] at h
  split at h<;>(try simp only [Bool.and_eq_true,decide_eq_true_eq,beq_iff_eq] at h)<;>first
   |(cases h; done)
   |(rw [h])
   |(rw [hl h])
   |(rw [h.1,hl h.2])
   |(rw [h.1,h.2])
   |(rw [hl h.1,hl h.2])
   |(obtain ⟨⟨⟨⟨h1,h2⟩,h3⟩,h4⟩,h5⟩:=h; rw [h1,h2,h3,h4,h5])
   |(obtain ⟨⟨⟨h1,h2⟩,h3⟩,h4⟩:=h; rw [h1,h2,h3,h4])
   |(obtain ⟨⟨h1,h2⟩,h3⟩:=h; rw [h1,h2,h3])
   |(obtain ⟨⟨h1,h2⟩,h3,h4⟩:=h; rw [h1,h2,h3,h4])
   |rfl
noncomputable def rop (call:CallF) (env:Env) (M:AMem):AOp→Option (AVal×AMem)
 | .sliceS x lo hi =>
  match x.ev env with
  | .str s=>obind (boundOf env s.length hi) fun h=>obind (boundOf env 0 lo) fun l =>
   ow (0≤h∧h≤s.length∧0≤l∧l≤h) (some (.str ((s.take h.toNat).drop l.toNat),M))
  |_=>none
 | .sliceV sz x lo hi mx =>
  match x.ev env with
  | .slice _ xs=>ow (widB xs sz=true) <| obind (boundOf env xs.length hi) fun h=>obind (boundOf env 0 lo) fun l =>
   match mx with
   |none=>ow (0≤h∧h≤xs.length∧0≤l∧l≤h) (some (.slice .sh ((xs.take h.toNat).drop l.toNat),M))
   |some m=>match m.ev env with
    | .int _ m=>ow (0≤m∧m≤xs.length∧0≤h∧h≤m∧0≤l∧l≤h)
      (oif (m==0) (some (.slice .c0 [],M)) (some (.slice .sh ((xs.take h.toNat).drop l.toNat),M)))
    |_=>none
  | .aref id v sz' al ah=>ow (sz'=sz) <| obind (boundOf env (ah-al) hi) fun h=>obind (boundOf env 0 lo) fun l =>
   match mx with
   |none=>ow (0≤h∧h≤(ah-al:Nat)∧0≤l∧l≤h) (oif (l==h) (some (.slice .sh [],M)) (some (.aref id v sz (al+l.toNat) (al+h.toNat),M)))
   |some m=>match m.ev env with
    | .int _ m=>ow (0≤m∧m≤(ah-al:Nat)∧0≤h∧h≤m∧0≤l∧l≤h)
      (oif (m==0) (some (.slice .c0 [],M)) (oif (l==h) (some (.slice .sh [],M)) (some (.aref id v sz (al+l.toNat) (al+h.toNat),M))))
    |_=>none
  |_=>none
 | .iaddr sz x i =>
  match x.ev env,i.ev env with
  | .slice _ xs,.int _ n=>ow (0≤n) (obind (xs[n.toNat]?) fun e=>if e.cells.length=sz then some (.rptr e.cells,M) else none)
  | .aref id v sz' lo hi,.int _ n=>ow (0≤n∧n<(hi-lo:Nat)∧sz'=sz) (some (.eptr id v (lo+n.toNat) 0,M))
  |_,_=>none
 | .indexS x i =>
  match x.ev env,i.ev env with
  | .str s,.int _ n=>ow (0≤n) (obind (s[n.toNat]?) fun b=>some (.int .u8 b.toNat,M))
  |_,_=>none
 | .append sz bytes x y =>
  match x.ev env,y.ev env with
  | .slice tk xs,.slice _ ys =>
   ow (roomOk (xs.length+ys.length) bytes∧widB xs sz=true∧widB ys sz=true) (
    match tk with
    | .c0=>match xs with|[]=>some (.slice (.own M.length) ys,M++[.tick sz ys.length])|_=>none
    | .own k=>match nth M k with
     |some (.tick sz' n)=>ow (sz'=sz∧n=xs.length) (some (.slice (.own k) (xs++ys),setN M k (.tick sz (xs.length+ys.length))))
     |_=>none
    | .sh=>none)
  |_,_=>none
 | .iaddrA n sz x i =>
  match x.ev env,i.ev env with
  | .rptr cs,.int _ m=>ow (0≤m∧m<n∧n*sz≤cs.length) (some (.rptr (cs.drop (m.toNat*sz)),M))
  |_,_=>none
 | .indexA n x i =>
  match x.ev env,i.ev env with
  | .agg cs,.int _ m=>ow (0≤m∧m<n) (obind (cs[m.toNat]?) fun c=>some (c,M))
  |_,_=>none
 | .appendS e y z =>
  match y.ev env,z.ev env with
  | .obuf k t x l,.str s=>match nth M k with
   |some (.tick sz n)=>ow (sz=1∧t=e∧n=l.length∧roomOk (l.length+s.length) 1) (some (.obuf k t x (l++s),setN M k (.tick 1 (l.length+s.length))))
   |_=>none
  |_,_=>none
 | .appendB e y z =>
  match y.ev env,z.ev env with
  | .obuf k t x l,.slice _ ys=>obind (bytesOf ys) fun s=>oif (sameL (sameV 9) ys (s.map u8V)) (match nth M k with
   |some (.tick sz n)=>ow (sz=1∧t=e∧n=l.length∧roomOk (l.length+s.length) 1) (some (.obuf k t x (l++s),setN M k (.tick 1 (l.length+s.length))))
   |_=>none) none
  |_,_=>none
 |o=>aop call env M o
theorem rop_le {call:CallF} {env:Env} {M:AMem} {o:AOp} {x:AVal×AMem} (h:rop call env M o=some x):aop call env M o=some x:=by
 by_cases hb:∃e x y,o = .appendB e x y
 ·obtain ⟨e,y,z,rfl⟩:=hb
  simp only [rop,aop] at h ⊢
  split at h
  ·rename_i k t l tk ys e1 e2
   obtain ⟨s,hs,h⟩:=obind_inv h
   simp only [e1,e2,hs,obind_some]
   rcases oif_inv h with ⟨h1,h2⟩|⟨_,h2⟩
   ·rw [owhen_pos (sameL_eq (sameV_eq 9) h1)]
    simp only [ow_eq] at h2
    exact h2
   ·cases h2
  ·cases h
 ·have:rop call env M o=aop call env M o:=by
   cases o<;>first|rfl|(exact absurd ⟨_,_,_,rfl⟩ hb)|(simp only [rop,aop,ow_eq,widB_eq]; rfl)
  rw [←this]; exact h
def growOk (env:Env):AOp→Bool
 | .mv _ | .own .. | .pick .. | .box0 _ | .box _ | .build .. | .lits .. | .litsO .. | .loadA .. | .load1 _ | .chk _ | .bin .. | .eqA .. | .eqB .. | .not _ | .neg _ | .conv .. | .same _ | .fn .. | .faddr .. | .fieldA .. | .field1 ..
 | .s2b _ | .boxO .. | .boxW .. | .bindF .. | .iaddrA .. | .indexA .. | .look .. | .indexS .. | .extract .. | .lenS _ | .lenV _ | .minmax .. | .b2s _ | .iaddr .. | .sliceS .. => true
 |_=>false
theorem growOk_sound {call:CallF} {env:Env} {M:AMem} {o:AOp} {x:AVal×AMem} (h:growOk env o=true) (hx:aop call env M o=some x):M <+: x.2:=by
 have hm:∀ {v:AVal} {x:AVal×AMem},some (v,M)=some x→M <+: x.2:=fun h=>by cases h; exact List.prefix_refl _
 have ha:∀ {v:AVal} {l:AMem} {x:AVal×AMem},some (v,M++l)=some x→M <+: x.2:=fun h=>by cases h; exact List.prefix_append _ _
 have ho:∀ {p:Prop} {y:Option (AVal×AMem)} {x:AVal×AMem},owhen p y=some x→y=some x:=fun {p} {y} {x} h=>by
  by_cases hp:p
  ·rwa [owhen_pos hp] at h
  ·rw [eq_false hp,owhen_false] at h; cases h
 cases o<;>first|(cases h; done)|skip
 all_goals (simp only [aop] at hx)
 all_goals (repeat' (first|exact hm hx|exact ha hx|(replace hx:=ho hx)|(have hx':=obind_inv hx; clear hx; obtain ⟨_,_,hx⟩:=hx')|(have hx':=oif_inv hx; clear hx; rcases hx' with ⟨_,hx⟩|⟨_,hx⟩)|(split at hx)|(cases hx; done)))
def sepOk (env:Env) (o:AOp) (sep:List Nat):Bool:=match o with
 | .store _ a _=>match a.ev env with
  | .ptr id _ => !sep.isEmpty&&sep.all fun z=>match getS env z with | .ptr i _=>i != id|_=>false
  |_=>false
 |_=>false
theorem nth_setN_ne {M:AMem} {i j:Nat} {b:ABox} (h:j≠i):nth (setN M i b) j=nth M j:=by
 induction M generalizing i j with
 |nil=>rfl
 |cons a r ih =>
  cases i with
  |zero=>cases j with
   |zero=>exact absurd rfl h
   |succ j=>rfl
  |succ i=>cases j with
   |zero=>rfl
   |succ j=>simp only [setN,nth]; exact ih (fun e=>h (by rw [e]))
theorem sepOk_sound {call:CallF} {env:Env} {M:AMem} {o:AOp} {sep:List Nat} {x:AVal×AMem} (h:sepOk env o sep=true) (hx:aop call env M o=some x):sep≠[]∧sepAll env M x.2 sep:=by
 unfold sepOk at h
 split at h
 ·rename_i n a y
  split at h
  ·rename_i id off ha
   simp only [Bool.and_eq_true,List.all_eq_true] at h
   refine ⟨fun e=>by rw [e] at h; simp at h,?_⟩
   simp only [aop,ha] at hx
   split at hx
   ·rename_i cs hcs
    obtain ⟨new,_,hx⟩:=obind_inv hx
    split at hx
    ·cases hx
     have h2:=h.2
     clear h
     induction sep with
     |nil=>trivial
     |cons z r ih =>
      refine ⟨?_,ih fun w hw=>h2 w (List.mem_cons_of_mem _ hw)⟩
      have hz:=h2 z List.mem_cons_self
      split
      ·rename_i i o hi
       rw [hi] at hz
       exact nth_setN_ne (by simpa using hz)
      ·rename_i hi
       split at hz
       ·rename_i i o hi'; exact absurd hi' (hi i o)
       ·cases hz
    ·cases hx
   ·cases hx
  ·cases h
 ·cases h
def sameB:ABox→ABox→Bool
 | .cells a,.cells b=>sameL (sameV 9) a b
 | .tick a b,.tick c d=>decide (a=c)&&decide (b=d)
 | .map a b,.map c d=>sameL (sameV 9) a c&&sameL (sameV 9) b d
 | .siter a b,.siter c d=>decide (a=c)&&decide (b=d)
 | .arr a b c,.arr d e f=>decide (a=d)&&decide (b=e)&&sameL (sameV 9) c f
 |_,_=>false
theorem sameB_eq {a b:ABox} (h:sameB a b=true):a=b:=by
 have hl:∀ {a b:List AVal},sameL (sameV 9) a b=true→a=b:=fun h=>sameL_eq (sameV_eq 9) h
 unfold sameB at h
 split at h<;>(try simp only [Bool.and_eq_true,decide_eq_true_eq] at h)<;>first
  |(cases h; done)
  |(rw [hl h])
  |(rw [h.1,h.2])
  |(rw [hl h.1,hl h.2])
  |(obtain ⟨⟨h1,h2⟩,h3⟩:=h; rw [h1,h2,hl h3])
def prefB:AMem→AMem→Bool
 | [],_=>true
 |a::r,b::s=>sameB a b&&prefB r s
 |_::_,[]=>false
theorem prefB_eq:∀ {a b:AMem},prefB a b=true→a <+: b
 | [],_,_=>List.nil_prefix
 |a::r,b::s,h=>by
  simp only [prefB,Bool.and_eq_true] at h
  rw [sameB_eq h.1]
  exact (List.prefix_cons_inj _).2 (prefB_eq h.2)
 |_::_,[],h=>by cases h
noncomputable def rstep (call:CallF) (o:AOper) (env:Env) (M:AMem):Option (AVal×AMem) :=
 match o.nomem with
 |true=>ow (o.op.argIds env=[]) (rop call env M o.op)
 |false=>match o.grow with
  |false=>rop call env M o.op
  |true=>match growOk env o.op||sepOk env o.op o.sep with
   |true=>rop call env M o.op
   |false=>obind (rop call env M o.op) fun x=>oif (prefB M x.2) (some x) none
theorem rstep_le {call:CallF} {o:AOper} {env:Env} {M:AMem} {x:AVal×AMem} (h:rstep call o env M=some x):astep call o env M=some x:=by
 unfold rstep at h
 unfold astep
 split at h
 ·rename_i hn
  simp only [hn]
  rw [ow_eq] at h
  obtain ⟨h1,h2⟩:=owhen_inv h
  rw [owhen_pos h1]
  exact rop_le h2
 ·rename_i hn
  simp only [hn]
  split at h
  ·rename_i hg
   simp only [hg]
   exact rop_le h
  ·rename_i hg
   simp only [hg]
   split at h
   ·rename_i hb
    replace h:=rop_le h
    rw [h,obind_some]
    refine owhen_pos ?_
    rcases Bool.or_eq_true .. ▸ hb with hb|hb
    ·exact .inl (growOk_sound hb h)
    ·exact .inr (sepOk_sound hb h)
   ·obtain ⟨y,hy,h⟩:=obind_inv h
    replace hy:=rop_le hy
    rcases oif_inv h with ⟨hp,h⟩|⟨_,h⟩
    ·injection h with h; subst h
     rw [hy,obind_some]
     exact owhen_pos (.inl (prefB_eq hp))
    ·cases h
noncomputable def rregion (call:CallF):List AOper→Env→AMem→Option (Env×AMem)
 | [],env,M=>some (env,M)
 |o::r,env,M =>
  match o.guard with
  |none=>obind (rstep call o env M) fun x=>rregion call r (putS env o.dst x.1) x.2
  |some (t,want)=>match getS env t with
   | .bool b=>oif (b==want) (obind (rstep call o env M) fun x=>rregion call r (putS env o.dst x.1) x.2)
    (rregion call r (putS env o.dst (.tuple [])) M)
   | .tuple []=>rregion call r (putS env o.dst (.tuple [])) M
   |_=>none
theorem rregion_le {call:CallF}:∀ {ops:List AOper} {env:Env} {M:AMem} {x:Env×AMem},rregion call ops env M=some x→aregion call ops env M=some x
 | [],_,_,_,h=>h
 |o::r,env,M,x,h=>by
  rw [rregion] at h
  rw [aregion]
  split at h
  ·rename_i hg
   simp only [hg]
   obtain ⟨a,ha,h⟩:=obind_inv h
   rw [rstep_le ha,obind_some]
   exact rregion_le h
  ·rename_i t want hg
   simp only [hg]
   split at h
   ·rename_i b hb
    simp only [hb]
    rcases oif_inv h with ⟨hw,h⟩|⟨hw,h⟩
    ·obtain ⟨a,ha,h⟩:=obind_inv h
     rw [hw,oif_true,rstep_le ha,obind_some]
     exact rregion_le h
    ·rw [hw,oif_false]
     exact rregion_le h
   ·rename_i hb
    simp only [hb]
    exact rregion_le h
   ·cases h
noncomputable def rexec (call:CallF) (fuel:Nat):ACode→Env→AMem→Option Out
 | .skip,env,M=>some ⟨.normal,env,M⟩
 | .region ops _ live,env,M=>obind (rregion call ops env M) fun x=>some ⟨.normal,keepS x.1 live,x.2⟩
 | .seq a b,env,M=>obind (rexec call fuel a env M) fun o=>goOn o (rexec call fuel b)
 | .cond c x y,env,M=>match c.ev env with
  | .bool t=>oif t (rexec call fuel x env M) (rexec call fuel y env M)
  |_=>none
 | .block id c,env,M=>obind (rexec call fuel c env M) fun o=>some (outOf id o)
 | .loop live c,env,M=>iter (rexec call fuel c) live fuel env M
 | .exit id,env,M=>some ⟨.exit id,env,M⟩
 | .ret,env,M=>some ⟨.ret,env,M⟩
theorem rexec_le {call:CallF} {fuel:Nat}:∀(c:ACode) {env:Env} {M:AMem} {x:Out},rexec call fuel c env M=some x→aexec call c env M=some x
 | .skip,_,_,_,h=>h
 | .exit _,_,_,_,h=>h
 | .ret,_,_,_,h=>h
 | .region ops d live,env,M,x,h=>by
  simp only [aexec,rexec] at *
  obtain ⟨a,ha,h⟩:=obind_inv h
  rw [rregion_le ha]; exact h
 | .seq a b,env,M,x,h=>by
  simp only [aexec,rexec] at *
  obtain ⟨o,ho,h⟩:=obind_inv h
  rw [rexec_le a ho]
  exact goOn_mono (fun env M x=>rexec_le b) h
 | .cond c a b,env,M,x,h=>by
  simp only [aexec,rexec] at *
  split
  ·rename_i t ht
   simp only [ht] at h
   rcases oif_inv h with ⟨rfl,h⟩|⟨rfl,h⟩
   ·exact rexec_le a h
   ·exact rexec_le b h
  ·rename_i ht
   split at h
   ·rename_i t ht'; exact absurd ht' (ht t)
   ·cases h
 | .block id c,env,M,x,h=>by
  simp only [aexec,rexec] at *
  obtain ⟨o,ho,h⟩:=obind_inv h
  rw [rexec_le c ho]; exact h
 | .loop live c,env,M,x,h=>by
  simp only [aexec,rexec] at *
  exact lim_some (fun n x=>iter_up live n) (iter_mono (fun env M x=>rexec_le c) live fuel h)
noncomputable def rcall (T:Tab) (loops:Nat):Nat→CallF
 |0,_,_,_=>none
 |n+1,f,args,M=>match T.prim f with
  |some g=>g args M
  |none=>match T.code f with
   |none=>none
   |some fn=>if args.length=fn.nparams then obind (rexec (rcall T loops n) loops fn.body (parsFrom 0 args) M) (finish fn.results M.length) else none
def TabLe (S T:Tab):Prop:=S.code=T.code∧(∀f,(S.prim f).isSome=(T.prim f).isSome)∧∀f g,S.prim f=some g→∃g',T.prim f=some g'∧∀a M x,g a M=some x→g' a M=some x
theorem rcall_le {S T:Tab} (h:TabLe S T) (loops:Nat):∀n,CallLe (rcall S loops n) (acallN T n)
 |0,_,_,_,_,h=>by cases h
 |n+1,f,a,M,x,hx=>by
  rw [rcall] at hx
  rw [acallN]
  split at hx
  ·rename_i g hg
   obtain ⟨g',h1,h2⟩:=h.2.2 f g hg
   simp only [h1]
   exact h2 a M x hx
  ·rename_i hg
   have:T.prim f=none:=by
    have:=h.2.1 f
    rw [hg] at this
    cases hT:T.prim f with
    |none=>rfl
    |some g=>rw [hT] at this; cases this
   simp only [this,←h.1]
   split at hx
   ·cases hx
   ·rename_i fn hf
    simp only [hf]
    split at hx
    ·rename_i hl
     rw [if_pos hl]
     obtain ⟨o,ho,hx⟩:=obind_inv hx
     rw [aexec_mono (rcall_le h loops n) _ (rexec_le _ ho),obind_some]
     exact hx
    ·cases hx
theorem rcall_sound {S T:Tab} (h:TabLe S T) {loops n f:Nat} {a:List AVal} {M:AMem} {x:AVal×AMem} (hx:rcall S loops n f a M=some x):acall T f a M=some x :=
 lim_some (fun n x h=>acallN_up T n f a M x h) (rcall_le h loops n f a M x hx)
end Go.Abs
namespace Go.Proofs.YtannopdcbocngaaGreatDoor
open Go Go.Abs
noncomputable def rClone (sz bytes:Nat):List AVal→AMem→Option (AVal×AMem)
 | [.slice _ xs],M=>match xs with
  | []=>some (.slice .c0 [],M)
  |x::r=>ow (widB (x::r) sz=true∧roomOk (x::r).length bytes) (some (.aref M.length 0 sz 0 (x::r).length,M++[.arr sz 0 (x::r)]))
 |_,_=>none
theorem rClone_eq (sz bytes:Nat):rClone sz bytes=pClone sz bytes:=by
 funext a M
 unfold rClone pClone
 simp only [ow_eq,widB_eq]
 rfl
noncomputable def rDelete (sz:Nat):List AVal→AMem→Option (AVal×AMem)
 | [.aref id ver sz' lo hi,.int .i64 i,.int .i64 i'],M=>match nth M id with
  |some (.arr sz0 v xs)=>ow (v=ver∧sz'=sz∧lo=0∧hi=xs.length∧0≤i∧i.toNat<xs.length∧i'=i+1∧xs.length≤2 ^ 44)
    (some (.aref id (ver+1) sz 0 (xs.length-1),setN M id (.arr sz0 (ver+1) (xs.take i.toNat++xs.drop (i.toNat+1)))))
  |_=>none
 |_,_=>none
noncomputable def rInsert (sz bytes:Nat):List AVal→AMem→Option (AVal×AMem)
 | [.aref id ver sz' lo hi,.int .i64 i,.slice _ [e]],M=>match nth M id with
  |some (.arr sz0 v xs)=>ow (v=ver∧sz'=sz∧lo=0∧hi=xs.length∧0≤i∧i.toNat≤xs.length∧e.cells.length=sz∧roomOk (xs.length+1) bytes)
    (some (.aref id (ver+1) sz 0 (xs.length+1),setN M id (.arr sz0 (ver+1) (xs.take i.toNat++e::xs.drop i.toNat))))
  |_=>none
 | [.slice .c0 [],.int .i64 i,.slice _ [e]],M=>ow (i=0∧e.cells.length=sz) (some (.aref M.length 0 sz 0 1,M++[.arr sz 0 [e]]))
 |_,_=>none
theorem rInsert_eq (sz bytes:Nat):rInsert sz bytes=pInsert sz bytes:=by
 funext a M
 unfold rInsert pInsert
 simp only [ow_eq,widB_eq]
 rfl
noncomputable def rSplitS:List AVal→AMem→Option (AVal×AMem)
 | [.str s,.str [c]],M=>if s.length<4294967281 then some (.slice .sh ((cutL c s).map .str),M) else none
 |_,_=>none
theorem rSplitS_le:∀a M x,rSplitS a M=some x→pSplitS a M=some x:=by
 intro a M x h
 unfold rSplitS at h
 split at h
 ·rename_i s c
  split at h
  ·rename_i hs
   simp only [pSplitS]
   rw [if_pos ⟨hs,by simp⟩,splitS_one]
   exact h
  ·cases h
 ·cases h
noncomputable def primR:Nat→Option (List AVal→AMem→Option (AVal×AMem))
 |42=>some pItoa
 |58=>some pAtoi
 |98=>some pIndexByte
 |93=>some pCut
 |64=>some rSplitS
 |48=>some pJoin
 |91=>some pCheck
 |51=>some pString
 |110=>some (rClone 3 32)
 |107=>some (rClone 6 80)
 |108=>some (rInsert 6 80)
 |109=>some (rInsert 3 32)
 |171=>some pCompare
 |28=>some pReadHist
 |_=>none
theorem primR_le (f:Nat) (g:List AVal→AMem→Option (AVal×AMem)) (h:primR f=some g):∃g',primS f=some g'∧∀a M x,g a M=some x→g' a M=some x:=by
 unfold primR at h
 split at h
 all_goals first|cases h; done|skip
 all_goals (injection h with h; subst h)
 all_goals (simp only [primS,prim,Nat.reduceEqDiff,if_false,if_true])
 all_goals first
  |exact ⟨_,rfl,fun _ _ _ h=>h⟩
  |exact ⟨_,rfl,rSplitS_le⟩
  |exact ⟨_,rfl,fun _ _ _ h=>by rw [rClone_eq] at h; exact h⟩
  |exact ⟨_,rfl,fun _ _ _ h=>by rw [rInsert_eq] at h; exact h⟩
theorem primR_some (f:Nat):(primR f).isSome=(primS f).isSome:=by
 cases h:primR f with
 |some g=>obtain ⟨g',h',_⟩:=primR_le f g h; rw [h']; rfl
 |none =>
  have:primS f=none:=by
   by_cases h28:f=28
   ·subst h28; cases h
   ·simp only [primS,if_neg h28]
    unfold prim
    split<;>first|rfl|(cases h; done)
  rw [this]; try rfl
noncomputable def tabR:Tab:=⟨code,primR⟩
theorem run_sound {loops n f:Nat} {a:List AVal} {M:AMem} {x:AVal×AMem} (hx:rcall tabR loops n f a M=some x):acall tabS f a M=some x :=
 rcall_sound (S:=tabR) (T:=tabS) ⟨rfl,primR_some,primR_le⟩ hx
end Go.Proofs.YtannopdcbocngaaGreatDoor
namespace Go.Proofs.YtannopdcbocngaaGreatDoor
open Go Go.Abs
theorem head_ok:acall tabS 10 [] []=some (.bool true,[]):=run_sound (loops:=60) (n:=20) (by kernel_rfl)
end Go.Proofs.YtannopdcbocngaaGreatDoor
namespace Go.Proofs.YtannopdcbocngaaGreatDoor
open Go Go.Abs
attribute [local irreducible] exK opsK opK gK forkK kr acall callOp owhen obind
theorem kS10 (M:AMem):callOp (acall tabS) 10 [] M=some (.bool true,M):=callOp0 head_ok rfl rfl rfl rfl rfl M
theorem kS15 (o:Op) (h:OpOk o) (M:AMem):callOp (acall tabS) 15 [eOp .sh o] M=some (.str (opN o),M):=callOp0 (tab_leS (c15 o h .sh)) rfl rfl rfl rfl rfl M
theorem kS17 (a:Ans) (h:AnsOk a) (M:AMem):callOp (acall tabS) 17 [eAns .sh .sh a] M=some (.str (ansN a),M):=callOp0 (tab_leS (c17 a h .sh .sh (.inl rfl) (.inl rfl))) rfl rfl rfl rfl rfl M
theorem kS19 (l:List Event) (hok:∀e,e∈l→EvOk e) (hl:l.length≤100000) (M:AMem):callOp (acall tabS) 19 [.slice .sh (l.map eEv)] M=some (.str (histN l),M):=callOp0 (tab_leS (c19 l hok hl)) rfl rfl rfl rfl rfl M
end Go.Proofs.YtannopdcbocngaaGreatDoor
namespace Go.Proofs.YtannopdcbocngaaGreatDoor
open Go Go.Abs Go.RowKit Go.Lib
theorem one_taken {cs:Array Value} {i:Nat} {c:Value} (h:(cs.toList.drop (i*1)).take 1=[c]):cs[i]?=some c:=by
 have:=congrArg (·[0]?) h
 simpa [List.getElem?_take,List.getElem?_drop] using this
theorem strs_laid {P:Program} {W:World} {n:String} {g t e m:Nat} {ds:List (List UInt8)} (h:VarReads P W n (.agg (ds.map fun s => .lit (.string s)))) (hg:P.globalNamed n=some g) (ht:(P.globals[g]?).map (·.type)=some t) (hu:P.underlying t=some (.array m e)) (he:P.underlying e=some .string) (hc:P.cellsOf e=1) :
  ∀k s,k<m→ds[k]?=some s→W.cell? ⟨g,k,none⟩=some (.string (Go.Abs.bs s)):=by
 intro k s hk hs
 obtain ⟨g',t',cs,fuel,p,h1,h2,h3,h4⟩:=h
 obtain rfl:=Option.some.inj (hg.symm.trans h1)
 obtain rfl:=Option.some.inj (ht.symm.trans h2)
 obtain ⟨fuel',d,q,e1,e2⟩:=array_elem hu h4 k hk
 rw [hc] at e2
 obtain ⟨s',e3,e4,_⟩:=DataW.trod_string he e2
 rw [World.var?_cell hg h3,one_taken e3]
 rw [List.getElem?_map,hs] at e1
 injection e1 with e1
 injection e4 with e4 _
 rw [←e1] at e4
 injection e4 with e4
 injection e4 with e4
 congr 2
 rw [e4]
 apply ByteArray.ext
 simp [Go.Abs.bs]
theorem ints_laid {P:Program} {W:World} {n:String} {g t e m:Nat} {ki:IntKind} {ds:List Int} (h:VarReads P W n (.agg (ds.map fun s => .lit (.int ki s)))) (hg:P.globalNamed n=some g) (ht:(P.globals[g]?).map (·.type)=some t) (hu:P.underlying t=some (.array m e)) (he:P.underlying e=some (.int ki)) (hc:P.cellsOf e=1) :
  ∀k s,k<m→ds[k]?=some s→W.cell? ⟨g,k,none⟩=some (.int ki s):=by
 intro k s hk hs
 obtain ⟨g',t',cs,fuel,p,h1,h2,h3,h4⟩:=h
 obtain rfl:=Option.some.inj (hg.symm.trans h1)
 obtain rfl:=Option.some.inj (ht.symm.trans h2)
 obtain ⟨fuel',d,q,e1,e2⟩:=array_elem hu h4 k hk
 rw [hc] at e2
 obtain ⟨s',e3,e4,_⟩:=DataW.trod_int he e2
 rw [World.var?_cell hg h3,one_taken e3]
 rw [List.getElem?_map,hs] at e1
 injection e1 with e1
 injection e4 with e4 _
 rw [←e1] at e4
 injection e4 with e4
 injection e4 with _ e4
 rw [e4]
abbrev laidL:=Rows.reportOwnRow.laid
def jX0:J:=⟨fun _=>none,fun _ _=>False⟩
theorem rel0 (W:World):Rel jX0 [] W where
 inj:=fun _ _ _ h=>by cases h
 lt:=fun _ _ h=>by cases h
 fix:=fun _ _ h=>by cases h
 tick:=fun _ _ _ _ h=>by cases h
 arr:=fun _ _ _ _ h=>by cases h
 xdis:=fun _ _ h=>by cases h
 xlt:=fun _ _ h=>h.elim
theorem saf0 {W:World} {b k:Nat} {v:Value} (h:W.cell? ⟨b,k,none⟩=some v):Saf jX0 [] W b k:=by
 refine ⟨?_,fun id hid=>by simp at hid,fun h=>h⟩
 simp only [World.cell?] at h
 split at h
 ·rename_i o ho
  exact (Array.getElem?_eq_some_iff.1 ho).1
 ·cases h
theorem size_of_shape {W:World} (hsh:W.ShapedOpen Tryz.prog) {g n t:Nat} (hg:g<Tryz.prog.globals.size) (h0:(((begin Tryz.prog (fun _ _=>0) default).world.heap[g]?).bind Obj.row?).map (fun x=>(x.1.size,x.2))=some (n,t)) :
  ∃us,W.heap[g]?=some (.cells us t (0,0))∧us.size=n:=by
 obtain ⟨⟨zero,t'⟩,hz,he⟩:=Option.map_eq_some_iff.1 h0
 injection he with e1 e2
 obtain ⟨cs,h1,h2,_⟩:=hsh.1 g zero t' hg hz
 subst e2
 exact ⟨cs,h1,h2.trans e1⟩
theorem globL {W:World} (hL:laidMet Tryz.prog laidL W) (hsh:W.ShapedOpen Tryz.prog):Glob jX0 [] W:=by
 have r0:=Lib.laidMet.reads hL (.tail _ (.tail _ (.tail _ (.tail _ (.tail _ (.tail _ (.head _)))))))
 have r1:=Lib.laidMet.reads hL (.tail _ (.tail _ (.tail _ (.tail _ (.tail _ (.head _))))))
 have r2:=Lib.laidMet.reads hL (.tail _ (.tail _ (.tail _ (.tail _ (.head _)))))
 have r3:=Lib.laidMet.reads hL (.tail _ (.tail _ (.head _)))
 have c0:=strs_laid (ds:=wordsL) (g:=0) (t:=76) (e:=9) (m:=18) r0 (by kernel_rfl) (by kernel_rfl) (by kernel_rfl) (by kernel_rfl) (by kernel_rfl)
 have c3:=ints_laid (ds:=pow10L.map fun (n:Nat)=>(n:Int)) (ki := .u64) (g:=3) (t:=216) (e:=127) (m:=20) r3 (by kernel_rfl) (by kernel_rfl) (by kernel_rfl) (by kernel_rfl) (by kernel_rfl)
 have sent:∀ {n:String} {g:Nat} {nm:String} {d:DataW Unit},VarReads Tryz.prog W n (.iface nm d)→Tryz.prog.globalNamed n=some g→(Tryz.prog.globals[g]?).map (·.type)=some 89→∃t p,W.cell? ⟨g,0,none⟩=some (.iface t p):=by
  rintro n g nm d ⟨g',t',cs,fuel,p,h1,h2,h3,h4⟩ hg ht
  obtain rfl:=Option.some.inj (hg.symm.trans h1)
  obtain rfl:=Option.some.inj (ht.symm.trans h2)
  obtain ⟨_,u,v,e1,_⟩:=iface_of_trod (P:=Tryz.prog) (ti:=89) (ms := #[("Error",92)]) (by kernel_rfl) h4
  refine ⟨u,v,?_⟩
  rw [World.var?_cell hg h3]
  have:=congrArg (·[0]?) e1
  simpa using this
 obtain ⟨m,hm⟩:=cell_of_shapedOpen_int (P:=Tryz.prog) (g:=4) (t:=3) (k := .i64) hsh (of_decide_eq_true (by kernel_rfl)) (zero := #[.int .i64 0]) (by kernel_rfl) rfl (by kernel_rfl) (by kernel_rfl) (by kernel_rfl)
 obtain ⟨us0,n0,z0⟩:=size_of_shape hsh (g:=0) (n:=18) (t:=76) (of_decide_eq_true (by kernel_rfl)) (by kernel_rfl)
 obtain ⟨us3,n3,z3⟩:=size_of_shape hsh (g:=3) (n:=20) (t:=216) (of_decide_eq_true (by kernel_rfl)) (by kernel_rfl)
 obtain ⟨t1,p1,h1⟩:=sent (g:=1) r1 (by kernel_rfl) (by kernel_rfl)
 obtain ⟨t2,p2,h2⟩:=sent (g:=2) r2 (by kernel_rfl) (by kernel_rfl)
 refine ⟨fun b vs k v hb hk=>?_,fun b vs hb=>?_,fun b p hb=>?_⟩
 ·have hcell:W.cell? ⟨b,k,none⟩=some v:=by
   match b,hb with
   |0,hb =>
    cases hb
    rw [List.getElem?_map,Option.map_eq_some_iff] at hk
    obtain ⟨s,hs,rfl⟩:=hk
    exact c0 k s (List.getElem?_eq_some_iff.1 hs).1 hs
   |3,hb =>
    cases hb
    rw [List.getElem?_map,Option.map_eq_some_iff] at hk
    obtain ⟨s,hs,rfl⟩:=hk
    exact c3 k s (List.getElem?_eq_some_iff.1 hs).1 (by rw [List.getElem?_map,hs]; rfl)
   |1,hb=>cases hb
   |2,hb=>cases hb
   |n+4,hb=>cases hb
  exact ⟨saf0 hcell,hcell⟩
 ·match b,hb with
  |0,hb=>cases hb; exact ⟨us0,_,_,n0,z0⟩
  |3,hb=>cases hb; exact ⟨us3,_,_,n3,z3⟩
  |1,hb=>cases hb
  |2,hb=>cases hb
  |n+4,hb=>cases hb
 ·match b,hb with
  |1,hb=>cases hb; exact ⟨_,⟨t1,p1,rfl⟩,saf0 h1,h1⟩
  |2,hb=>cases hb; exact ⟨_,⟨t2,p2,rfl⟩,saf0 h2,h2⟩
  |4,hb=>cases hb; exact ⟨_,⟨m,rfl⟩,saf0 hm,hm⟩
  |0,hb=>cases hb
  |3,hb=>cases hb
  |n+5,hb=>cases hb
end Go.Proofs.YtannopdcbocngaaGreatDoor
namespace Go.Proofs.YtannopdcbocngaaGreatDoor
open Go Go.Abs Go.ChangeShapes Go.WideShapes Go.ChangeAt Go.RowKit Go.Lib
open Go.ChangeMaps (open_string shut_string)
theorem ownK:ownKnob Tryz.prog.godebug=none:=by kernel_rfl
def valsOf:DataW Unit→List Value
 | .lit (.int k z)=>[.int k z]
 | .lit (.string s)=>[.string ⟨s.toArray⟩]
 | .agg ds=>ds.flatMap fun d=>match d with
  | .lit (.int k z)=>[.int k z]
  | .lit (.string s)=>[.string ⟨s.toArray⟩]
  | .agg es=>es.flatMap fun e=>match e with
   | .lit (.int k z)=>[.int k z]
   | .lit (.string s)=>[.string ⟨s.toArray⟩]
   |_=>[]
  |_=>[]
 |_=>[]
noncomputable def low:Nat:=(World.holding Tryz.prog default ⟨#[],#[],[]⟩).heap.size
abbrev synS:ByteArray:=⟨#[105,110,118,97,108,105,100,32,115,121,110,116,97,120]⟩
abbrev rngS:ByteArray:=⟨#[118,97,108,117,101,32,111,117,116,32,111,102,32,114,97,110,103,101]⟩
noncomputable def laidWorld (os:Os):World :=
 let w0:=World.holding Tryz.prog os ⟨#[.cells #[.string synS] 223,.cells #[.string rngS] 223],#[],[]⟩
 let put (h:Array Obj) (g:Nat) (cs:List Value):Array Obj:=h.modify g fun
  | .cells _ t frozen => .cells cs.toArray t frozen
  |o=>o
 let h:=put w0.heap 0 (valsOf Rows.laid_catacomb_report_words)
 let h:=put h 1 [.iface 221 (.pointer (some ⟨low,0,none⟩))]
 let h:=put h 2 [.iface 221 (.pointer (some ⟨low+1,0,none⟩))]
 let h:=put h 3 (valsOf Rows.laid_internal_strconv_uint64pow10)
 let h:=put h 5 (valsOf Rows.laid_unicode_utf8_first)
 let h:=put h 6 (valsOf Rows.laid_unicode_utf8_acceptRanges)
 let h:=put h 7 (valsOf Rows.laid_math_bits_deBruijn32tab)
 let h:=put h 8 (valsOf Rows.laid_math_bits_deBruijn64tab)
 { w0 with heap:=h }
theorem laid_met (os:Os) (args:Array Value):laidMet Tryz.prog laidL ((laidWorld os).forCall (fun _ _=>0) ⟨#[],args,[]⟩).memory :=
 laidMet_of_run' 8 (by kernel_rfl) (by kernel_rfl)
end Go.Proofs.YtannopdcbocngaaGreatDoor
namespace Go.Proofs.YtannopdcbocngaaGreatDoor
open Go Go.Abs Go.ChangeShapes Go.WideShapes Go.RowKit Go.Deep
theorem laidOut:laidOutB Tryz.prog=true:=by kernel_rfl
section
variable {H:Type} {enc:TypeId×Value→H}
theorem trodAll_stays {W W':World} (hb:Below W.heap.size W W'):∀ {ts:List TypeId} {vs:List Value} {ds:List (DataW H)} {p:List MemPlace},DataW.TrodAll enc Tryz.prog W 0 (fun _=>true) true ts vs ds p →
  (∀t,t∈ts→Tryz.prog.readableRec t=true∧t<Tryz.prog.types.size)→(∀x∈p,x.block<W.heap.size)→DataW.TrodAll enc Tryz.prog W' 0 (fun b=>decide (b<W.heap.size)) true ts vs ds p
 | [],vs,ds,p,h,_,_=>by
  obtain ⟨rfl,rfl,rfl⟩:=trodAll_nil h
  exact trodAll_mk0
 |t::ts,vs,ds,p,h,ht,hp=>by
  obtain ⟨v,vs',d,ds',p1,q,rfl,rfl,rfl,h1,h2⟩:=trodAll_cons h
  exact trodAll_cons_mk (Below.trod laidOut (ht t List.mem_cons_self).1 (ht t List.mem_cons_self).2 h1 hb (fun x hx=>hp x (List.mem_append_left _ hx)))
   (trodAll_stays hb h2 (fun t ht'=>ht t (List.mem_cons_of_mem _ ht')) (fun x hx=>hp x (List.mem_append_right _ hx)))
abbrev SafW (w:World):Nat→Nat→Prop:=Saf jX0 [] w
theorem saf_none {w:World} {b off:Nat} (h:b<w.heap.size):SafW w b off:=⟨h,fun id hid=>absurd hid (Nat.not_lt_zero _),fun hx=>hx⟩
theorem cell_lt {w:World} {b off:Nat} {v:Value} (h:w.cell? ⟨b,off,none⟩=some v):b<w.heap.size:=by
 rcases Nat.lt_or_ge b w.heap.size with hb|hb
 ·exact hb
 ·simp [World.cell?,Array.getElem?_eq_none hb] at h
theorem addr_add (b off i:Nat):(⟨b,off,none⟩:Addr).add i=⟨b,off+i,none⟩:=by
 unfold Addr.add
 split
 ·rename_i h; rw [h]; rfl
 ·rfl
theorem int_rep {w:World} {fuel t:Nat} {v:Value} {x:DataW H×List MemPlace} (ht:Tryz.prog.underlying t=some (.int .i64)) (h:DataW.trod enc Tryz.prog w 0 (fun _=>true) true fuel t [v]=some x):∃n:Int,okI n∧RepP w (SafW w) (.int .i64 n) v:=by
 obtain ⟨n,q,_,wf⟩:=DataW.trod_int ht h
 cases q
 refine ⟨n,?_,.int _ _⟩
 have h3:IntKind.i64.min≤n∧n≤IntKind.i64.max:=by simpa [Lit.wf] using wf
 have e1:IntKind.i64.min = -9223372036854775808:=by decide
 have e2:IntKind.i64.max=9223372036854775807:=by decide
 unfold okI; omega
theorem u8_rep {w:World} {fuel t:Nat} {v:Value} {x:DataW H×List MemPlace} (ht:Tryz.prog.underlying t=some (.int .u8)) (h:DataW.trod enc Tryz.prog w 0 (fun _=>true) true fuel t [v]=some x):∃b:UInt8,RepP w (SafW w) (u8V b) v:=by
 obtain ⟨n,q,_,wf⟩:=DataW.trod_int ht h
 cases q
 have h3:IntKind.u8.min≤n∧n≤IntKind.u8.max:=by simpa [Lit.wf] using wf
 have e1:IntKind.u8.min=0:=by decide
 have e2:IntKind.u8.max=255:=by decide
 have e:n=((UInt8.ofNat n.toNat).toNat:Int):=by rw [UInt8.toNat_ofNat']; omega
 refine ⟨UInt8.ofNat n.toNat,?_⟩
 unfold u8V
 rw [←e]
 exact .int _ _
theorem str_rep {w:World} {fuel t:Nat} {v:Value} {x:DataW H×List MemPlace} (ht:Tryz.prog.underlying t=some .string) (h:DataW.trod enc Tryz.prog w 0 (fun _=>true) true fuel t [v]=some x):∃s:Bytes,RepP w (SafW w) (.str s) v:=by
 obtain ⟨s,q,_,_⟩:=DataW.trod_string ht h
 cases q
 refine ⟨s.data.toList,?_⟩
 have:Go.Abs.bs s.data.toList=s:=by apply ByteArray.ext; simp [Go.Abs.bs]
 have h:=RepP.str (w:=w) (saf:=SafW w) s.data.toList
 rw [this] at h
 exact h
theorem choose_list {α:Type} (P:Nat→α→Prop):∀(n:Nat),(∀i,i<n→∃a,P i a)→∃l:List α,l.length=n∧∀i a,l[i]?=some a→P i a
 |0,_=>⟨[],rfl,fun i a h=>by cases i<;>cases h⟩
 |n+1,h=>by
  obtain ⟨l,hl,hp⟩:=choose_list P n (fun i hi=>h i (by omega))
  obtain ⟨a,ha⟩:=h n (by omega)
  refine ⟨l++[a],by simp [hl],fun i b hb=>?_⟩
  rcases Nat.lt_or_ge i n with hi|hi
  ·rw [List.getElem?_append_left (by omega)] at hb
   exact hp i b hb
  ·rw [List.getElem?_append_right (by omega)] at hb
   have:i=n:=by
    have:=(List.getElem?_eq_some_iff.1 hb).1
    simp at this; omega
   subst this
   simp [hl] at hb
   subst hb; exact ha
def CellsRep (w:World) (l:List AVal) (cs:List Value):Prop:=l.length=cs.length∧∀(k:Nat) (c:AVal) (v:Value),l[k]?=some c→cs[k]?=some v→RepP w (SafW w) c v
theorem CellsRep.one {w:World} {c:AVal} {v:Value} (h:RepP w (SafW w) c v):CellsRep w [c] [v]:=⟨rfl,fun k c' v' h1 h2=>by
 match k with
 |0=>cases h1; cases h2; exact h
 |k+1=>cases h1⟩
theorem CellsRep.app {w:World} {a b:List AVal} {cs ds:List Value} (h:CellsRep w a cs) (g:CellsRep w b ds):CellsRep w (a++b) (cs++ds):=⟨by simp [h.1,g.1],fun k c v h1 h2=>by
 rcases Nat.lt_or_ge k a.length with hk|hk
 ·rw [List.getElem?_append_left hk] at h1
  rw [List.getElem?_append_left (by rw [←h.1]; exact hk)] at h2
  exact h.2 k c v h1 h2
 ·rw [List.getElem?_append_right hk] at h1
  rw [List.getElem?_append_right (by rw [←h.1]; exact hk),←h.1] at h2
  exact g.2 _ c v h1 h2⟩
theorem CellsRep.nil {w:World}:CellsRep w [] []:=⟨rfl,fun k c v h1 _=>by cases h1⟩
theorem rows_rep {α:Type} {w:World} {fuel t e m:Nat} {v:Value} {x:DataW H×List MemPlace} {eC:α→List AVal} {mk:α→AVal} {P:α→Prop} (ht:Tryz.prog.underlying t=some (.slice e)) (hm:Tryz.prog.cellsOf e=m) (hm0:0<m)
  (hmk:∀a,(mk a).cells=eC a) (hlen:∀a,(eC a).length=m)
  (he:∀(n:Nat) (cs:List Value) (y:DataW H×List MemPlace),cs.length=m→DataW.trod enc Tryz.prog w 0 (fun _=>true) true n e cs=some y→∃a,P a∧CellsRep w (eC a) cs)
  (h:DataW.trod enc Tryz.prog w 0 (fun _=>true) true fuel t [v]=some x) :
  ∃l:List α,(∀a,a∈l→P a)∧RepP w (SafW w) (.slice .sh (l.map mk)) v:=by
 rcases open_slice ht h with ⟨hcs,_⟩|⟨a,len,cap,mm,n,D,Pl,hcs,_,hl,_,hmm,_,hi⟩
 ·cases hcs
  exact ⟨[],by simp,RepP.nil _ _ _⟩
 ·cases hcs
  simp only [if_true] at hmm
  obtain ⟨b,off,spot⟩:=a
  rw [hm] at hi
  have each:∀i,i<len→∃s:α,P s∧∃cs',w.cells? 0 ((⟨b,off,spot⟩:Addr).add (i*m)) m=some cs'∧cs'.length=m∧CellsRep w (eC s) cs':=by
   intro i hi'
   obtain ⟨cs',hcl,ht⟩:=hi i (by omega)
   have hln:cs'.length=m:=(World.cells?_some hcl).2.1
   obtain ⟨s,hs,hr⟩:=he _ _ _ hln ht
   exact ⟨s,hs,cs',hcl,hln,hr⟩
  obtain ⟨l,hll,hlp⟩:=choose_list _ len each
  refine ⟨l,fun s hs=>?_,?_⟩
  ·obtain ⟨i,hi'⟩:=List.mem_iff_getElem?.1 hs
   exact (hlp i s hi').1
  have hsp:len≠0→spot=none:=fun h0=>by
   obtain ⟨s,_,cs',hcl,h6,_⟩:=each 0 (by omega)
   obtain ⟨_,_,hat⟩:=World.cells?_some hcl
   have:=hat 0 hm0
   have h3:cs'[0]?=some (cs'[0]'(by omega)):=List.getElem?_eq_getElem (by omega)
   rw [h3] at this
   simpa [Addr.add] using World.cell?_spot this
  have cell:∀(i:Nat) (s:α) (k:Nat) (c:AVal),l[i]?=some s→(eC s)[k]?=some c→∃u,w.cell? ⟨b,off+(i*m+k),none⟩=some u∧RepP w (SafW w) c u:=fun i s k c hs hk=>by
   obtain ⟨_,cs',hcl,h6,hr⟩:=hlp i s hs
   have hil:i<len:=by have:=(List.getElem?_eq_some_iff.1 hs).1; omega
   obtain rfl:=hsp (by omega)
   obtain ⟨_,_,hat⟩:=World.cells?_some hcl
   have hk6:k<m:=by have:=(List.getElem?_eq_some_iff.1 hk).1; rw [hlen] at this; exact this
   have h1:=hat k hk6
   have h3:cs'[k]?=some (cs'[k]'(by omega)):=List.getElem?_eq_getElem (by omega)
   rw [addr_add,addr_add,h3] at h1
   exact ⟨_,by rw [←Nat.add_assoc]; exact h1,hr.2 k c _ hk h3⟩
  refine .slice _ _ _ _ b off m (fun q=>(w.cell? ⟨b,off+q,none⟩).getD undef) (by simp [hll]) hl (fun hne=>?_) ?_ ?_ ?_
  ·obtain rfl:=hsp (fun h0=>hne (by rw [h0] at hll; rw [List.length_eq_zero_iff.1 hll]; rfl))
   rfl
  ·intro x hx
   obtain ⟨s,_,rfl⟩:=List.mem_map.1 hx
   rw [hmk,hlen]
  ·intro i x k c hx hk
   rw [List.getElem?_map] at hx
   obtain ⟨s,hs,rfl⟩:=Option.map_eq_some_iff.1 hx
   rw [hmk] at hk
   obtain ⟨u,h1,_⟩:=cell i s k c hs hk
   refine ⟨by rw [h1]; rfl,saf_none (cell_lt h1)⟩
  ·intro i x k c hx hk
   rw [List.getElem?_map] at hx
   obtain ⟨s,hs,rfl⟩:=Option.map_eq_some_iff.1 hx
   rw [hmk] at hk
   obtain ⟨u,h1,h2⟩:=cell i s k c hs hk
   show RepP w _ c ((w.cell? _).getD undef)
   rw [h1]
   exact h2
theorem bytes_rep {w:World} {fuel t e:Nat} {v:Value} {x:DataW H×List MemPlace} (ht:Tryz.prog.underlying t=some (.slice e)) (he:Tryz.prog.underlying e=some (.int .u8)) (hc:Tryz.prog.cellsOf e=1) (h:DataW.trod enc Tryz.prog w 0 (fun _=>true) true fuel t [v]=some x) :
  ∃d:Bytes,RepP w (SafW w) (.slice .sh (d.map u8V)) v:=by
 obtain ⟨l,_,h⟩:=rows_rep (eC:=fun b=>[u8V b]) (mk:=u8V) (P:=fun _=>True) ht hc (by omega) (fun _=>rfl) (fun _=>rfl) (fun n cs y hl hy=>by
  match cs,hl with
  | [c],_ =>
   obtain ⟨b,hb⟩:=u8_rep he hy
   exact ⟨b,trivial,.one hb⟩) h
 exact ⟨l,h⟩
theorem strs_rep {w:World} {fuel t e:Nat} {v:Value} {x:DataW H×List MemPlace} (ht:Tryz.prog.underlying t=some (.slice e)) (he:Tryz.prog.underlying e=some .string) (hc:Tryz.prog.cellsOf e=1) (h:DataW.trod enc Tryz.prog w 0 (fun _=>true) true fuel t [v]=some x) :
  ∃d:List Bytes,RepP w (SafW w) (.slice .sh (d.map .str)) v:=by
 obtain ⟨l,_,h⟩:=rows_rep (eC:=fun b=>[.str b]) (mk:=fun (b:Bytes)=>AVal.str b) (P:=fun _=>True) ht hc (by omega) (fun _=>rfl) (fun _=>rfl) (fun n cs y hl hy=>by
  match cs,hl with
  | [c],_ =>
   obtain ⟨b,hb⟩:=str_rep he hy
   exact ⟨b,trivial,.one hb⟩) h
 exact ⟨l,h⟩
set_option maxRecDepth 100000 in
theorem whole_rep {w:World} {t:Nat} {fs:Array Field} {r:Reach} {b:Nat} {v:Value} {d:DataW H} {ps:List MemPlace} {P:List Value→Prop} (ht:Tryz.prog.underlying t=some (.struct fs)) (h:DataW.Trod enc Tryz.prog w 0 (fun _=>true) true t v d ps) (hv:Value.okWide Tryz.prog w r b t v)
  (K:∀(n:Nat) (cs:List Value) (y:DataW H×List MemPlace),DataW.trod enc Tryz.prog w 0 (fun _=>true) true n t cs=some y→P cs):∃cs:Array Value,v = .agg cs∧P cs.toList:=by
 obtain ⟨cs,rfl,_⟩:=okWide_struct ht hv
 obtain ⟨fuel,hf⟩:=h
 have hcs:(Value.agg cs).cells.toList=cs.toList:=rfl
 rw [hcs] at hf
 exact ⟨cs,rfl,K _ _ _ hf⟩
theorem agg_rep {w:World} {l:List AVal} {cs:Array Value} (h:CellsRep w l cs.toList):Rep jX0 [] w (.agg l) (.agg cs) :=
 .agg (by rw [h.1]; simp) (fun i c v hc hv => .plain (h.2 i c v hc (by simpa using hv)))
theorem true_calls {T:Tab} (hT:SoundC Tryz.prog (acall T)) {f:Nat} {args:List AVal} (h:acall T f args []=some (.bool true,[])) (w:World) (hG:Glob jX0 [] w) (vs:Array Value) (hl:args.length=vs.size) (hv:∀(i:Nat) (c:AVal) (v:Value),args[i]?=some c→vs[i]?=some v→Rep jX0 [] w c v) :
  Calls Tryz.prog f vs w fun e w'=>e = .returned (.bool true)∧Below w.heap.size w w':=by
 refine ((hT f args [] _ h).2 jX0 w vs (rel0 w) hG hl hv).mono ?_
 rintro e w' ⟨v,j',rfl,_,hx,hr⟩
 obtain rfl:=hr.bool_inv
 exact ⟨rfl,hx.os,hx.tape,hx.output,hx.size,fun k hk=>(hx.old k hk fun i hi=>absurd hi (Nat.not_lt_zero _)).1⟩
end
theorem two_of {α:Type} {a:Array α} {l:List α} (h:a.toList=l):a=l.toArray:=by rw [←h]
end Go.Proofs.YtannopdcbocngaaGreatDoor
namespace Go.Proofs.YtannopdcbocngaaGreatDoor
open Go Go.Abs
theorem u8_of_nat {n:Nat} (h:n<256):(UInt8.ofNat n).toNat=n:=by rw [UInt8.toNat_ofNat']; omega
theorem escN_nil {s:Bytes}:escN s=[]↔s=[]:=by
 cases s with
 |nil=>simp [escN]
 |cons c r =>
  simp only [escN,List.flatMap_cons,reduceCtorEq,iff_false]
  intro h
  have:=(List.append_eq_nil_iff.1 h).1
  unfold escB at this
  split at this<;>simp at this
end Go.Proofs.YtannopdcbocngaaGreatDoor
namespace Go.Proofs.YtannopdcbocngaaGreatDoor
open Go Go.Abs
attribute [local irreducible] exK opsK opK gK forkK kr acall callOp owhen obind
theorem min300 (n:Nat):(if 300<((n:Nat):Int) then 300 else ((n:Nat):Int))=((min n 300:Nat):Int):=by split<;>omega
theorem cut300 (n:Nat):(((min n 300:Nat):Int)≤((n:Nat):Int)∧((0:Nat):Int)≤((min n 300:Nat):Int))=True:=by
 simp only [eq_iff_iff,iff_true]; omega
theorem min100 (n:Nat):(if 100<((n:Nat):Int) then 100 else ((n:Nat):Int))=((min n 100:Nat):Int):=by split<;>omega
theorem cut100 (n:Nat):(((min n 100:Nat):Int)≤((n:Nat):Int)∧((0:Nat):Int)≤((min n 100:Nat):Int))=True:=by
 simp only [eq_iff_iff,iff_true]; omega
theorem natI (n:Nat):((n:Nat):Int).toNat=n:=by omega
theorem take_min {α:Type} (l:List α) (m:Nat):l.take (min l.length m)=l.take m:=by
 rcases Nat.le_total l.length m with h|h
 ·rw [Nat.min_eq_left h,List.take_of_length_le h,List.take_of_length_le (Nat.le_refl _)]
 ·rw [Nat.min_eq_right h]
theorem take_u8 (d:Bytes):List.take (min (List.length d) 300) (d.map u8V)=List.take 300 (d.map u8V):=by rw [←List.map_take,take_min,List.map_take]
theorem wid_u8 (d:Bytes):wid (List.take 300 (d.map u8V)) 1=True:=by rw [←List.map_take]; exact widU _
theorem room_u8 (d:Bytes):roomOk (List.take 300 (d.map u8V)).length 1=True:=roomO (by simp; omega) (by omega)
def cutOpN (o:Op):Op:={ o with path:=o.path.take 300,dest:=o.dest.take 300,data:=o.data.take 300 }
theorem c12 (o:Op):acall tab 12 [eOp .sh o] []=some (eOp .sh (cutOpN o),[]):=by
 refine acall_ex rfl rfl rfl ?_
 simp only [fn12,E12,eOpC,eOp,List.length_map,min300,cut300,natI,take_min,take_u8,widU,wid_u8,room_u8,List.length_nil,Nat.zero_add,cutOpN,EVT,EVD,↓reduceIte,Nat.reduceEqDiff,reduceCtorEq,Nat.reduceAdd,Nat.reduceLeDiff,ne_eq,Nat.reduceLT,Int.reduceLT,Int.reduceLE,Int.reduceNeg]
def cutAnsN (a:Ans):Ans:={ a with names:=(a.names.take 40).map (List.take 100),data:=a.data.take 300 }
theorem sl100 (x:Bytes):List.take (min (List.length x) 100) x=x.take 100:=take_min x 100
theorem loop13 (cs:List AVal) (hcs:∀B M,cs.map (AVal.back1 B M)=cs) (a:Ans) (u:List Bytes) (hu:(a.names.take 40).map (List.take 100)=u) (C:CallF) (hC:C=acall tab):∀(r pre:List Bytes),a.names=pre++r→pre.length≤40→∀(fn:List ARes) (base:Nat) (k:List K),
  exK C fn base (.block 0::k) (.loop [1,2,3,4] lb13_0) [(1,.ptr 0 0),(2,.ptr 1 0),(3,.slice (.own 2) ((pre.map (List.take 100)).map .str)),(4,eI pre.length)] [.cells (eAnsC .sh .sh a),.cells cs,.tick 1 pre.length] =
  kr C fn base k ⟨.normal,[(1,.ptr 0 0),(2,.ptr 1 0),(3,.slice (.own 2) (u.map .str)),(4,eI u.length),(14,.bool false)],[.cells (eAnsC .sh .sh a),.cells cs,.tick 1 u.length]⟩
 | [],pre,he,hp,fn,base,k=>by
  subst hC
  have hpre:pre=a.names:=by simpa using he.symm
  have hu':u=pre.map (List.take 100):=by rw [←hu,←hpre,List.take_of_length_le hp]
  subst hu'
  have hlt:decide ((pre.length:Int)<a.names.length)=false:=by rw [hpre]; simp
  rw [exK_loop]
  simp only [E13,eAnsC,hlt,List.length_map,EVT,EVD,↓reduceIte,Nat.reduceEqDiff,reduceCtorEq,Nat.reduceAdd,Nat.reduceLeDiff,ne_eq,Nat.reduceLT,Int.reduceLT,Int.reduceLE,Int.reduceNeg]
 |x::r,pre,he,hp,fn,base,k=>by
  subst hC
  have hl':pre.length<a.names.length:=by rw [he]; simp
  have hlt:decide ((pre.length:Int)<a.names.length)=true:=by simpa using hl'
  by_cases h4:pre.length=40
  ·have hu':u=pre.map (List.take 100):=by rw [←hu,he,←h4]; simp
   subst hu'
   have h40:decide ((pre.length:Int)<40)=false:=by rw [h4]; rfl
   rw [exK_loop]
   simp only [E13,eAnsC,hlt,h40,List.length_map,EVT,EVD,↓reduceIte,Nat.reduceEqDiff,reduceCtorEq,Nat.reduceAdd,Nat.reduceLeDiff,ne_eq,Nat.reduceLT,Int.reduceLT,Int.reduceLE,Int.reduceNeg]
  ·have h40:decide ((pre.length:Int)<40)=true:=by simp; omega
   have hix:a.names[pre.length]?=some x:=by rw [he]; simp
   have hn:(0:Int)≤pre.length:=by omega
   have hw:IntKind.i64.wrap ((pre.length:Int)+1)=((pre++[x]).length:Int):=by rw [List.length_append,wrapS (by omega) (by omega)]; simp
   have hr:=roomO (a:=pre.length+1) (b:=16) (by omega) (by omega)
   have ih:=loop13 cs hcs a u hu (acall tab) rfl r (pre++[x]) (by simpa using he) (by simp; omega) fn base k
   simp only [List.length_append,List.length_cons,List.length_nil,Nat.zero_add,List.map_append,List.map_cons,List.map_nil,eAnsC] at ih hw
   rw [exK_loop]
   simp only [E13,eAnsC,hlt,h40,hix,hr,min100,cut100,natI,sl100,List.length_map,EVT,EVD,↓reduceIte,Nat.reduceEqDiff,reduceCtorEq,Nat.reduceAdd,Nat.reduceLeDiff,ne_eq,Nat.reduceLT,Int.reduceLT,Int.reduceLE,Int.reduceNeg]
   simp only [E13,hw,widS,hcs,EVT,EVD,↓reduceIte,Nat.reduceEqDiff,reduceCtorEq,Nat.reduceAdd,Nat.reduceLeDiff,ne_eq,Nat.reduceLT,Int.reduceLT,Int.reduceLE,Int.reduceNeg]
   exact ih
theorem c13 (a:Ans):acall tab 13 [eAns .sh .sh a] []=some (eAns .sh .sh (cutAnsN a),[]):=by
 refine acall_ex rfl rfl rfl ?_
 have h0:=fun cs hcs fn base k=>loop13 cs hcs a _ rfl (acall tab) rfl a.names [] rfl (by simp) fn base k
 simp only [eAnsC,List.map_nil,List.length_nil] at h0
 simp only [fn13,E13,eAnsC,eAns,EVT,EVD,↓reduceIte,Nat.reduceEqDiff,reduceCtorEq,Nat.reduceAdd,Nat.reduceLeDiff,ne_eq,Nat.reduceLT,Int.reduceLT,Int.reduceLE,Int.reduceNeg]
 refine (h0 _ (fun _ _=>rfl) _ _ _).trans ?_
 simp only [E13,List.length_map,min300,cut300,natI,take_u8,widU,wid_u8,room_u8,List.length_nil,Nat.zero_add,cutAnsN,EVT,EVD,↓reduceIte,Nat.reduceEqDiff,reduceCtorEq,Nat.reduceAdd,Nat.reduceLeDiff,ne_eq,Nat.reduceLT,Int.reduceLT,Int.reduceLE,Int.reduceNeg]
end Go.Proofs.YtannopdcbocngaaGreatDoor
namespace Go.Proofs.YtannopdcbocngaaGreatDoor
open Go Go.Abs Go.ChangeShapes Go.WideShapes Go.RowKit Go.Deep
structure OpI (o:Op):Prop where
 kind:okI o.kind
 client:okI o.client
 n:okI o.n
 m:okI o.m
 handle:okI o.handle
structure AnsI (a:Ans):Prop where
 err:okI a.err
 ino:okI a.ino
 kind:okI a.kind
 n:okI a.n
 m:okI a.m
structure EvI (e:Event):Prop where
 kind:okI e.kind
 client:okI e.client
 op:OpI e.op
 ans:AnsI e.ans
theorem u_int:Tryz.prog.underlying 3=some (.int .i64):=by kernel_rfl
theorem u_errno:Tryz.prog.underlying 25=some (.int .i64):=by kernel_rfl
theorem u_str:Tryz.prog.underlying 9=some .string:=by kernel_rfl
theorem u_u8:Tryz.prog.underlying 5=some (.int .u8):=by kernel_rfl
theorem u_bytes:Tryz.prog.underlying 22=some (.slice 5):=by kernel_rfl
theorem u_strs:Tryz.prog.underlying 26=some (.slice 9):=by kernel_rfl
theorem u_evs:Tryz.prog.underlying 29=some (.slice 57):=by kernel_rfl
theorem c_one:Tryz.prog.cellsOf 3=1∧Tryz.prog.cellsOf 25=1∧Tryz.prog.cellsOf 9=1∧Tryz.prog.cellsOf 5=1∧Tryz.prog.cellsOf 22=1∧Tryz.prog.cellsOf 26=1∧Tryz.prog.cellsOf 24=8∧Tryz.prog.cellsOf 28=7∧Tryz.prog.cellsOf 57=17:=⟨by kernel_rfl,by kernel_rfl,by kernel_rfl,by kernel_rfl,by kernel_rfl,by kernel_rfl,by kernel_rfl,by kernel_rfl,by kernel_rfl⟩
section
variable {H:Type} {enc:TypeId×Value→H}
set_option maxRecDepth 100000 in
theorem op_rep {w:World} {fuel:Nat} {cs:List Value} {x:DataW H×List MemPlace} (h:DataW.trod enc Tryz.prog w 0 (fun _=>true) true fuel 24 cs=some x):∃o:Op,OpI o∧CellsRep w (eOpC .sh o) cs:=by
 obtain ⟨xs,n,_,_,hl,hxl,hf⟩:=DataW.trod_struct Tryz.underlying24 h
 have h0:cs.length=8:=by rw [hl]; kernel_rfl
 match cs,h0 with
 | [v0,v1,v2,v3,v4,v5,v6,v7],_ =>
  match xs,hxl with
  | [y0,y1,y2,y3,y4,y5,y6,y7],_ =>
   have e0:DataW.trod enc Tryz.prog w 0 (fun _=>true) true n 3 ((List.drop 0 [v0,v1,v2,v3,v4,v5,v6,v7]).take (Tryz.prog.cellsOf 3))=some y0:=hf 0 _ rfl
   rw [c_one.1] at e0
   have e1:DataW.trod enc Tryz.prog w 0 (fun _=>true) true n 3 ((List.drop 1 [v0,v1,v2,v3,v4,v5,v6,v7]).take (Tryz.prog.cellsOf 3))=some y1:=hf 1 _ rfl
   rw [c_one.1] at e1
   have e2:DataW.trod enc Tryz.prog w 0 (fun _=>true) true n 9 ((List.drop 2 [v0,v1,v2,v3,v4,v5,v6,v7]).take (Tryz.prog.cellsOf 9))=some y2:=hf 2 _ rfl
   rw [c_one.2.2.1] at e2
   have e3:DataW.trod enc Tryz.prog w 0 (fun _=>true) true n 9 ((List.drop 3 [v0,v1,v2,v3,v4,v5,v6,v7]).take (Tryz.prog.cellsOf 9))=some y3:=hf 3 _ rfl
   rw [c_one.2.2.1] at e3
   have e4:DataW.trod enc Tryz.prog w 0 (fun _=>true) true n 3 ((List.drop 4 [v0,v1,v2,v3,v4,v5,v6,v7]).take (Tryz.prog.cellsOf 3))=some y4:=hf 4 _ rfl
   rw [c_one.1] at e4
   have e5:DataW.trod enc Tryz.prog w 0 (fun _=>true) true n 3 ((List.drop 5 [v0,v1,v2,v3,v4,v5,v6,v7]).take (Tryz.prog.cellsOf 3))=some y5:=hf 5 _ rfl
   rw [c_one.1] at e5
   have e6:DataW.trod enc Tryz.prog w 0 (fun _=>true) true n 3 ((List.drop 6 [v0,v1,v2,v3,v4,v5,v6,v7]).take (Tryz.prog.cellsOf 3))=some y6:=hf 6 _ rfl
   rw [c_one.1] at e6
   have e7:DataW.trod enc Tryz.prog w 0 (fun _=>true) true n 22 ((List.drop 7 [v0,v1,v2,v3,v4,v5,v6,v7]).take (Tryz.prog.cellsOf 22))=some y7:=hf 7 _ rfl
   rw [c_one.2.2.2.2.1] at e7
   obtain ⟨a0,i0,r0⟩:=int_rep (v:=v0) u_int e0
   obtain ⟨a1,i1,r1⟩:=int_rep (v:=v1) u_int e1
   obtain ⟨a2,r2⟩:=str_rep (v:=v2) u_str e2
   obtain ⟨a3,r3⟩:=str_rep (v:=v3) u_str e3
   obtain ⟨a4,i4,r4⟩:=int_rep (v:=v4) u_int e4
   obtain ⟨a5,i5,r5⟩:=int_rep (v:=v5) u_int e5
   obtain ⟨a6,i6,r6⟩:=int_rep (v:=v6) u_int e6
   obtain ⟨a7,r7⟩:=bytes_rep (v:=v7) u_bytes u_u8 c_one.2.2.2.1 e7
   exact ⟨⟨a0,a1,a2,a3,a4,a5,a6,a7⟩,⟨i0,i1,i4,i5,i6⟩,(CellsRep.app (.one r0) (CellsRep.app (.one r1) (CellsRep.app (.one r2) (CellsRep.app (.one r3) (CellsRep.app (.one r4) (CellsRep.app (.one r5) (CellsRep.app (.one r6) (.one r7))))))))⟩
set_option maxRecDepth 100000 in
theorem ans_rep {w:World} {fuel:Nat} {cs:List Value} {x:DataW H×List MemPlace} (h:DataW.trod enc Tryz.prog w 0 (fun _=>true) true fuel 28 cs=some x):∃o:Ans,AnsI o∧CellsRep w (eAnsC .sh .sh o) cs:=by
 obtain ⟨xs,n,_,_,hl,hxl,hf⟩:=DataW.trod_struct Tryz.underlying28 h
 have h0:cs.length=7:=by rw [hl]; kernel_rfl
 match cs,h0 with
 | [v0,v1,v2,v3,v4,v5,v6],_ =>
  match xs,hxl with
  | [y0,y1,y2,y3,y4,y5,y6],_ =>
   have e0:DataW.trod enc Tryz.prog w 0 (fun _=>true) true n 25 ((List.drop 0 [v0,v1,v2,v3,v4,v5,v6]).take (Tryz.prog.cellsOf 25))=some y0:=hf 0 _ rfl
   rw [c_one.2.1] at e0
   have e1:DataW.trod enc Tryz.prog w 0 (fun _=>true) true n 3 ((List.drop 1 [v0,v1,v2,v3,v4,v5,v6]).take (Tryz.prog.cellsOf 3))=some y1:=hf 1 _ rfl
   rw [c_one.1] at e1
   have e2:DataW.trod enc Tryz.prog w 0 (fun _=>true) true n 3 ((List.drop 2 [v0,v1,v2,v3,v4,v5,v6]).take (Tryz.prog.cellsOf 3))=some y2:=hf 2 _ rfl
   rw [c_one.1] at e2
   have e3:DataW.trod enc Tryz.prog w 0 (fun _=>true) true n 3 ((List.drop 3 [v0,v1,v2,v3,v4,v5,v6]).take (Tryz.prog.cellsOf 3))=some y3:=hf 3 _ rfl
   rw [c_one.1] at e3
   have e4:DataW.trod enc Tryz.prog w 0 (fun _=>true) true n 3 ((List.drop 4 [v0,v1,v2,v3,v4,v5,v6]).take (Tryz.prog.cellsOf 3))=some y4:=hf 4 _ rfl
   rw [c_one.1] at e4
   have e5:DataW.trod enc Tryz.prog w 0 (fun _=>true) true n 26 ((List.drop 5 [v0,v1,v2,v3,v4,v5,v6]).take (Tryz.prog.cellsOf 26))=some y5:=hf 5 _ rfl
   rw [c_one.2.2.2.2.2.1] at e5
   have e6:DataW.trod enc Tryz.prog w 0 (fun _=>true) true n 22 ((List.drop 6 [v0,v1,v2,v3,v4,v5,v6]).take (Tryz.prog.cellsOf 22))=some y6:=hf 6 _ rfl
   rw [c_one.2.2.2.2.1] at e6
   obtain ⟨a0,i0,r0⟩:=int_rep (v:=v0) u_errno e0
   obtain ⟨a1,i1,r1⟩:=int_rep (v:=v1) u_int e1
   obtain ⟨a2,i2,r2⟩:=int_rep (v:=v2) u_int e2
   obtain ⟨a3,i3,r3⟩:=int_rep (v:=v3) u_int e3
   obtain ⟨a4,i4,r4⟩:=int_rep (v:=v4) u_int e4
   obtain ⟨a5,r5⟩:=strs_rep (v:=v5) u_strs u_str c_one.2.2.1 e5
   obtain ⟨a6,r6⟩:=bytes_rep (v:=v6) u_bytes u_u8 c_one.2.2.2.1 e6
   exact ⟨⟨a0,a1,a2,a3,a4,a5,a6⟩,⟨i0,i1,i2,i3,i4⟩,(CellsRep.app (.one r0) (CellsRep.app (.one r1) (CellsRep.app (.one r2) (CellsRep.app (.one r3) (CellsRep.app (.one r4) (CellsRep.app (.one r5) (.one r6)))))))⟩
set_option maxRecDepth 100000 in
theorem ev_rep {w:World} {fuel:Nat} {cs:List Value} {x:DataW H×List MemPlace} (h:DataW.trod enc Tryz.prog w 0 (fun _=>true) true fuel 57 cs=some x):∃o:Event,EvI o∧CellsRep w (eEvC o) cs:=by
 obtain ⟨xs,n,_,_,hl,hxl,hf⟩:=DataW.trod_struct Tryz.underlying57 h
 have h0:cs.length=17:=by rw [hl]; kernel_rfl
 match cs,h0 with
 | [v0,v1,v2,v3,v4,v5,v6,v7,v8,v9,v10,v11,v12,v13,v14,v15,v16],_ =>
  match xs,hxl with
  | [y0,y1,y2,y3],_ =>
   have e0:DataW.trod enc Tryz.prog w 0 (fun _=>true) true n 3 ((List.drop 0 [v0,v1,v2,v3,v4,v5,v6,v7,v8,v9,v10,v11,v12,v13,v14,v15,v16]).take (Tryz.prog.cellsOf 3))=some y0:=hf 0 _ rfl
   rw [c_one.1] at e0
   have e1:DataW.trod enc Tryz.prog w 0 (fun _=>true) true n 3 ((List.drop 1 [v0,v1,v2,v3,v4,v5,v6,v7,v8,v9,v10,v11,v12,v13,v14,v15,v16]).take (Tryz.prog.cellsOf 3))=some y1:=hf 1 _ rfl
   rw [c_one.1] at e1
   have e2:DataW.trod enc Tryz.prog w 0 (fun _=>true) true n 24 ((List.drop 2 [v0,v1,v2,v3,v4,v5,v6,v7,v8,v9,v10,v11,v12,v13,v14,v15,v16]).take (Tryz.prog.cellsOf 24))=some y2:=hf 2 _ rfl
   rw [c_one.2.2.2.2.2.2.1] at e2
   have e3:DataW.trod enc Tryz.prog w 0 (fun _=>true) true n 28 ((List.drop 10 [v0,v1,v2,v3,v4,v5,v6,v7,v8,v9,v10,v11,v12,v13,v14,v15,v16]).take (Tryz.prog.cellsOf 28))=some y3:=hf 3 _ rfl
   rw [c_one.2.2.2.2.2.2.2.1] at e3
   obtain ⟨a0,i0,r0⟩:=int_rep (v:=v0) u_int e0
   obtain ⟨a1,i1,r1⟩:=int_rep (v:=v1) u_int e1
   obtain ⟨a2,i2,r2⟩:=op_rep e2
   obtain ⟨a3,i3,r3⟩:=ans_rep e3
   exact ⟨⟨a0,a1,a2,a3⟩,⟨i0,i1,i2,i3⟩,(CellsRep.app (.one r0) (CellsRep.app (.one r1) (CellsRep.app r2 r3)))⟩
set_option maxRecDepth 100000 in
theorem op_val {w:World} {r:Reach} {b:Nat} {v:Value} {d:DataW H} {ps:List MemPlace} (h:DataW.Trod enc Tryz.prog w 0 (fun _=>true) true 24 v d ps) (hv:Value.okWide Tryz.prog w r b 24 v):∃o:Op,OpI o∧Rep jX0 [] w (eOp .sh o) v:=by
 obtain ⟨cs,rfl,o,ho,hr⟩:=whole_rep Tryz.underlying24 h hv (fun n cs y hy=>op_rep hy)
 exact ⟨o,ho,agg_rep hr⟩
set_option maxRecDepth 100000 in
theorem ans_val {w:World} {r:Reach} {b:Nat} {v:Value} {d:DataW H} {ps:List MemPlace} (h:DataW.Trod enc Tryz.prog w 0 (fun _=>true) true 28 v d ps) (hv:Value.okWide Tryz.prog w r b 28 v):∃o:Ans,AnsI o∧Rep jX0 [] w (eAns .sh .sh o) v:=by
 obtain ⟨cs,rfl,o,ho,hr⟩:=whole_rep Tryz.underlying28 h hv (fun n cs y hy=>ans_rep hy)
 exact ⟨o,ho,agg_rep hr⟩
set_option maxRecDepth 100000 in
theorem evs_val {w:World} {r:Reach} {b:Nat} {v:Value} {d:DataW H} {ps:List MemPlace} (h:DataW.Trod enc Tryz.prog w 0 (fun _=>true) true 29 v d ps) (hv:Value.okWide Tryz.prog w r b 29 v):∃l:List Event,(∀e,e∈l→EvI e)∧Rep jX0 [] w (.slice .sh (l.map eEv)) v:=by
 obtain ⟨a,len,cap,rfl⟩:=okWide_slice u_evs hv
 obtain ⟨fuel,hf⟩:=h
 obtain ⟨l,h1,h2⟩:=rows_rep (eC:=eEvC) (mk:=eEv) (P:=EvI) u_evs c_one.2.2.2.2.2.2.2.2 (by omega) (fun _=>rfl) (fun _=>rfl) (fun n cs y _ hy=>ev_rep hy) hf
 exact ⟨l,h1,.plain h2⟩
end
theorem OpI.cut {o:Op} (h:OpI o):OpOk (cutOpN o)∧(cutOpN o).path.length≤300∧(cutOpN o).dest.length≤300∧(cutOpN o).data.length≤300 :=
 ⟨⟨h.kind,h.client,by simp [cutOpN]; omega,by simp [cutOpN]; omega,h.n,h.m,h.handle,by simp [cutOpN]; omega⟩,by simp [cutOpN]; omega,by simp [cutOpN]; omega,by simp [cutOpN]; omega⟩
theorem sumL_100:∀l:List Bytes,sumL (l.map (List.take 100))≤100*l.length
 | []=>by simp [sumL]
 |x::r=>by
  have:=sumL_100 r
  simp only [sumL,List.map_cons,List.sum_cons,List.length_cons,List.length_take] at this ⊢
  omega
theorem AnsI.cut {a:Ans} (h:AnsI a):AnsOk (cutAnsN a)∧(cutAnsN a).names.length≤40∧sumL (cutAnsN a).names≤4000∧(cutAnsN a).data.length≤300:=by
 have h1:(cutAnsN a).names.length≤40:=by simp [cutAnsN]; omega
 have h2:sumL (cutAnsN a).names≤4000:=by
  have:=sumL_100 (a.names.take 40)
  have h3:(a.names.take 40).length≤40:=by simp; omega
  simp only [cutAnsN]; omega
 have h3:(cutAnsN a).data.length≤300:=by simp [cutAnsN]; omega
 exact ⟨⟨h.err,h.ino,h.kind,h.n,h.m,by omega,by omega,by omega⟩,h1,h2,h3⟩
theorem kS12 (o:Op) (M:AMem):callOp (acall tabS) 12 [eOp .sh o] M=some (eOp .sh (cutOpN o),M):=callOp0 (tab_leS (c12 o)) rfl rfl rfl rfl rfl M
theorem kS13 (a:Ans) (M:AMem):callOp (acall tabS) 13 [eAns .sh .sh a] M=some (eAns .sh .sh (cutAnsN a),M):=callOp0 (tab_leS (c13 a)) rfl rfl rfl rfl rfl M
end Go.Proofs.YtannopdcbocngaaGreatDoor
namespace Go.Proofs.YtannopdcbocngaaGreatDoor
open Go Go.Abs
def isB (x:Option (AVal×AMem)) (b:Bool):Bool:=match x with
 |some (.bool c,[])=>c==b
 |_=>false
theorem isB_eq {x:Option (AVal×AMem)} {b:Bool} (h:isB x b=true):x=some (.bool b,[]):=by
 unfold isB at h
 split at h
 ·have:=beq_iff_eq.1 h; subst this; rfl
 ·cases h
theorem c71 (c:UInt8):acall tabS 71 [.int .u8 c.toNat] []=some (.bool (plainE c),[]):=by
 have h:(List.range 256).all (fun n=>isB (rcall tabR 4 8 71 [.int .u8 (n:Int)] []) (plainE (UInt8.ofNat n)))=true:=by kernel_rfl
 have h1:=List.all_eq_true.1 h c.toNat (List.mem_range.2 c.toNat_lt)
 have h2:=isB_eq h1
 rw [UInt8.ofNat_toNat] at h2
 exact run_sound h2
theorem k71 (c:UInt8) (M:AMem):callOp (acall tabS) 71 [.int .u8 c.toNat] M=some (.bool (plainE c),M):=callOp0 (c71 c) rfl rfl rfl rfl rfl M
attribute [local irreducible] exK opsK opK gK forkK kr acall callOp owhen obind
end Go.Proofs.YtannopdcbocngaaGreatDoor
namespace Go.Proofs.YtannopdcbocngaaGreatDoor
open Go Go.Abs
attribute [local irreducible] exK opsK opK gK forkK kr acall callOp owhen obind
theorem bytes_one (c:UInt8):bytesOf [.int .u8 ((c.toNat:Nat):Int)]=some [c]:=bytes_u8 [c]
theorem z10:((10:Int)=0)=False:=by simp
theorem z16:((16:Int)=0)=False:=by simp
def numT (m:Nat) (s:Bytes):Bytes:=if m=0∧s≠[] then s else Lib.decDigits m++s
theorem numT_step {m:Nat} {s:Bytes} (h:0<m∨s=[]):numT m s=numT (m / 10) (UInt8.ofNat (48+m % 10)::s):=by
 have h0:¬(m=0∧s≠[]):=fun e=>by
  rcases h with h|h
  ·omega
  ·exact e.2 h
 unfold numT
 rw [if_neg h0]
 by_cases h1:m<10
 ·rw [if_pos ⟨by omega,by simp⟩,Lib.decDigits,dif_pos h1,show m % 10=m by omega]
  rfl
 ·rw [if_neg (fun e=>by omega),Lib.decDigits,dif_neg h1]
  simp
theorem loop37 (n:Int) (C:CallF) (hC:C=acall tabS):∀(f m:Nat),m<f→m<18446744073709551616→∀(s u:Bytes),(s=[]→m+1<f)→u.length≤1000→numT m s=u→∀(fn:List ARes) (base:Nat) (k:List K),
  exK C fn base (.block 0::k) (.loop [0,3,4] lb37_0) [(0,eI n),(3,.int .u64 m),(4,.str s)] [] =
  kr C fn base k ⟨.normal,[(0,eI n),(3,.int .u64 (0:Int)),(4,.str u),(16,.bool false)],[]⟩
 |0,m,hf,_,_,_,_,_,_,_,_,_=>by omega
 |f+1,m,hf,hm,s,u,hf2,hu1,hu,fn,base,k=>by
  subst hC
  by_cases hg:0<m∨s=[]
  ·have hst:=numT_step hg
   have ih:=loop37 n (acall tabS) rfl f (m / 10)
   have hq:IntKind.u64.wrap ((m:Int).tdiv 10)=((m / 10:Nat):Int):=by
    have:(m:Int).tdiv 10=((m / 10:Nat):Int):=by rw [Int.tdiv_eq_ediv_of_nonneg (by omega)]; omega
    rw [this,IntKind.wrap_u64]; omega
   have hr:IntKind.u64.wrap (48+(m:Int).tmod 10)=((48+m % 10:Nat):Int):=by
    have:(m:Int).tmod 10=((m % 10:Nat):Int):=by rw [Int.tmod_eq_emod_of_nonneg (by omega)]; omega
    rw [this,IntKind.wrap_u64]; omega
   have hc:IntKind.u8.wrap ((48+m % 10:Nat):Int)=(((UInt8.ofNat (48+m % 10)).toNat:Nat):Int):=by
    rw [u8_of_nat (by omega),IntKind.wrap_u8]; omega
   have hl:(UInt8.ofNat (48+m % 10)::s).length≤(numT m s).length:=by
    rw [hst]; unfold numT
    split
    ·exact Nat.le_refl _
    ·simp
   rw [hu,List.length_cons] at hl
   have hmx:=max_lt (1+s.length) (by omega)
   have hf3:m / 10<f:=by
    rcases hg with h|h
    ·omega
    ·have:=hf2 h; omega
   have ih':=ih hf3 (by omega) (UInt8.ofNat (48+m % 10)::s) u (fun e=>by cases e) hu1 (by rw [←hst]; exact hu) fn base k
   rw [exK_loop]
   rcases Nat.eq_zero_or_pos m with h0|h0
   ·have hs:s=[]:=hg.resolve_left (by omega)
    have hb:decide (0<(m:Int))=false:=by simp; omega
    subst hs
    simp only [E37,hb,z10,hr,hq,hc,bytes_one,hmx,List.length_nil,EVT,EVD,↓reduceIte,Nat.reduceEqDiff,reduceCtorEq,Nat.reduceAdd,Nat.reduceLeDiff,ne_eq,Nat.reduceLT,Int.reduceLT,Int.reduceLE,Int.reduceNeg]
    exact ih'
   ·have hb:decide (0<(m:Int))=true:=by simp; omega
    simp only [E37,hb,z10,hr,hq,hc,bytes_one,hmx,EVT,EVD,↓reduceIte,Nat.reduceEqDiff,reduceCtorEq,Nat.reduceAdd,Nat.reduceLeDiff,ne_eq,Nat.reduceLT,Int.reduceLT,Int.reduceLE,Int.reduceNeg]
    exact ih'
  ·have h0:m=0:=by omega
   have hs:s≠[]:=fun e=>hg (.inr e)
   subst h0
   have hb2:(s==[])=false:=by simpa using hs
   have hu':u=s:=by rw [←hu]; unfold numT; rw [if_pos ⟨rfl,hs⟩]
   subst hu'
   rw [exK_loop]
   simp only [E37,hb2,show decide (0<((0:Nat):Int))=false from rfl,show ((0:Nat):Int)=0 from rfl,EVT,EVD,↓reduceIte,Nat.reduceEqDiff,reduceCtorEq,Nat.reduceAdd,Nat.reduceLeDiff,ne_eq,Nat.reduceLT,Int.reduceLT,Int.reduceLE,Int.reduceNeg]
   done
theorem c37 (n:Int) (h:okI n):acall tabS 37 [eI n] []=some (.str (Lib.itoa n),[]):=by
 refine acall_ex rfl rfl rfl ?_
 have h':=h
 unfold okI at h'
 have h0:=fun m hm hl=>loop37 n (acall tabS) rfl (m+2) m (by omega) hm [] _ (fun _=>by omega) hl rfl
 have e0:∀m,numT m []=Lib.decDigits m:=fun m=>by unfold numT; rw [if_neg (by simp)]; simp
 simp only [e0] at h0
 have hl:=itoa_le h
 by_cases hn:n<0
 ·have hb:decide (n<0)=true:=by simpa using hn
  have hw:IntKind.u64.wrap n=((n+18446744073709551616).toNat:Int):=by rw [IntKind.wrap_u64]; omega
  have hw2:IntKind.u64.wrap (0-((n+18446744073709551616).toNat:Int))=((n.natAbs:Nat):Int):=by rw [IntKind.wrap_u64]; omega
  have hi:Lib.itoa n=45::Lib.decDigits n.natAbs:=by unfold Lib.itoa; rw [if_pos hn]
  simp only [fn37,E37,hb,hw,hw2,EVT,EVD,↓reduceIte,Nat.reduceEqDiff,reduceCtorEq,Nat.reduceAdd,Nat.reduceLeDiff,ne_eq,Nat.reduceLT,Int.reduceLT,Int.reduceLE,Int.reduceNeg]
  rw [hi,List.length_cons] at hl
  refine (h0 n.natAbs (by omega) (by omega) _ _ _).trans ?_
  have hmx:=max_lt (1+(Lib.decDigits n.natAbs).length) (by omega)
  rw [hi]
  simp only [E37,hb,hmx,EVT,EVD,↓reduceIte,Nat.reduceEqDiff,reduceCtorEq,Nat.reduceAdd,Nat.reduceLeDiff,ne_eq,Nat.reduceLT,Int.reduceLT,Int.reduceLE,Int.reduceNeg]
 ·have hb:decide (n<0)=false:=by simpa using hn
  have hw:IntKind.u64.wrap n=((n.toNat:Nat):Int):=by rw [IntKind.wrap_u64]; omega
  have hi:Lib.itoa n=Lib.decDigits n.toNat:=by unfold Lib.itoa; rw [if_neg hn]
  simp only [fn37,E37,hb,hw,EVT,EVD,↓reduceIte,Nat.reduceEqDiff,reduceCtorEq,Nat.reduceAdd,Nat.reduceLeDiff,ne_eq,Nat.reduceLT,Int.reduceLT,Int.reduceLE,Int.reduceNeg]
  rw [hi] at hl
  refine (h0 n.toNat (by omega) (by omega) _ _ _).trans ?_
  simp only [E37,hb,hi,EVT,EVD,↓reduceIte,Nat.reduceEqDiff,reduceCtorEq,Nat.reduceAdd,Nat.reduceLeDiff,ne_eq,Nat.reduceLT,Int.reduceLT,Int.reduceLE,Int.reduceNeg]
theorem k37 (n:Int) (h:okI n) (M:AMem):callOp (acall tabS) 37 [eI n] M=some (.str (Lib.itoa n),M):=callOp0 (c37 n h) rfl rfl rfl rfl rfl M
theorem hexR:∀n:Nat,n<256→IntKind.i64.wrap (n:Int)=(n:Int)∧IntKind.i64.wrap ((n:Int).tdiv 16)=((n / 16:Nat):Int)∧IntKind.i64.wrap (((n / 16:Nat):Int)+1)=((n / 16+1:Nat):Int)∧(n:Int).tmod 16=((n % 16:Nat):Int)∧IntKind.i64.wrap (((n % 16:Nat):Int)+1)=((n % 16+1:Nat):Int):=by decide +kernel
theorem one_cut {s pre r:Bytes} {c:UInt8} (he:s=pre++c::r):(s.take (pre.length+1)).drop pre.length=[c]:=by
 subst he
 rw [List.take_append,List.take_of_length_le (by omega),show pre.length+1-pre.length=1 by omega]
 simp
theorem loop49 (s:Bytes) (hs:s.length≤1000000) (C:CallF) (hC:C=acall tabS):∀(r pre:Bytes),s=pre++r→∀(fn:List ARes) (base:Nat) (k:List K),
  exK C fn base (.block 0::k) (.loop [0,3,4,5] lb49_0) [(0,.str s),(3,.str hexL),(4,.str (escN pre)),(5,eI pre.length)] [] =
  kr C fn base k ⟨.normal,[(0,.str s),(3,.str hexL),(4,.str (escN s)),(5,eI s.length),(10,.bool false)],[]⟩
 | [],pre,he,fn,base,k=>by
  subst hC
  have:pre=s:=by simpa using he.symm
  subst this
  rw [exK_loop]
  have hlt:decide ((pre.length:Int)<pre.length)=false:=by simp
  simp only [E49,hlt,EVT,EVD,↓reduceIte,Nat.reduceEqDiff,reduceCtorEq,Nat.reduceAdd,Nat.reduceLeDiff,ne_eq,Nat.reduceLT,Int.reduceLT,Int.reduceLE,Int.reduceNeg]
 |c::r,pre,he,fn,base,k=>by
  subst hC
  have hl:pre.length<s.length:=by rw [he]; simp
  have hlt:decide ((pre.length:Int)<s.length)=true:=by simpa using hl
  have hix:s[pre.length]?=some c:=by rw [he]; simp
  have hn:(0:Int)≤pre.length:=by omega
  have hw:IntKind.i64.wrap ((pre.length:Int)+1)=((pre.length+1:Nat):Int):=by rw [wrapS (by omega) (by omega)]; simp
  have ih:=loop49 s hs (acall tabS) rfl r (pre++[c]) (by simpa using he) fn base k
  obtain ⟨h0,h1,h2,h3,h4⟩:=hexR c.toNat c.toNat_lt
  rw [exK_loop]
  simp only [E49,hlt,hix,k71,h0,EVT,EVD,↓reduceIte,Nat.reduceEqDiff,reduceCtorEq,Nat.reduceAdd,Nat.reduceLeDiff,ne_eq,Nat.reduceLT,Int.reduceLT,Int.reduceLE,Int.reduceNeg]
  refine fork_split (fun hb=>?_) (fun hb=>?_)
  ·have he2:escN (pre++[c])=escN pre++[c]:=by rw [escN_snoc,escB,if_pos hb]
   have hok:(((pre.length+1:Nat):Int)≤((s.length:Nat):Int)∧((pre.length:Nat):Int)≤((pre.length+1:Nat):Int))=True:=by simp only [eq_iff_iff,iff_true]; omega
   rw [he2] at ih
   simp only [List.length_append,List.length_cons,List.length_nil,Nat.zero_add] at ih
   have hle:=escN_le pre
   have hmx:=max_lt ((escN pre).length+1) (by omega)
   simp only [E49,hb,hw,hok,natI,one_cut he,hmx,EVT,EVD,↓reduceIte,Nat.reduceEqDiff,reduceCtorEq,Nat.reduceAdd,Nat.reduceLeDiff,ne_eq,Nat.reduceLT,Int.reduceLT,Int.reduceLE,Int.reduceNeg]
   exact ih
  ·have ha:c.toNat / 16<16:=by have:=c.toNat_lt; omega
   have hb':c.toNat % 16<16:=by omega
   have he2:escN (pre++[c])=escN pre++[37,hexD (c.toNat / 16),hexD (c.toNat % 16)]:=by rw [escN_snoc,escB,if_neg (by simp [hb])]
   rw [he2] at ih
   simp only [List.length_append,List.length_cons,List.length_nil,Nat.zero_add,hexL] at ih
   have hle:=escN_le pre
   have x1:=max_lt ((escN pre).length+1) (by omega)
   have x2:=max_lt ((escN pre).length+1+1) (by omega)
   have x3:=max_lt ((escN pre).length+1+1+1) (by omega)
   have x4:=max_lt ((escN pre).length+2) (by omega)
   have x5:=max_lt ((escN pre).length+3) (by omega)
   have x6:=max_lt ((escN pre).length+2+1) (by omega)
   simp only [E49,hb,h1,h2,h3,h4,hexL,z16,x1,x2,x3,x4,x5,x6,natI,hex_ok _ ha,hex_ok _ hb',hex_cut _ ha,hex_cut _ hb',hw,EVT,EVD,↓reduceIte,Nat.reduceEqDiff,reduceCtorEq,Nat.reduceAdd,Nat.reduceLeDiff,ne_eq,Nat.reduceLT,Int.reduceLT,Int.reduceLE,Int.reduceNeg]
   rw [show escN pre++[37,hexD (c.toNat / 16),hexD (c.toNat % 16)]=escN pre++[37]++[hexD (c.toNat / 16)]++[hexD (c.toNat % 16)] by simp] at ih
   exact ih
theorem c49 (s:Bytes) (hs:s.length≤1000000):acall tabS 49 [.str s] []=some (.str (escN s),[]):=by
 refine acall_ex rfl rfl rfl ?_
 have h0:=fun fn base k=>loop49 s hs (acall tabS) rfl s [] rfl fn base k
 simp only [hexL] at h0
 simp only [fn49,E49,EVT,EVD,↓reduceIte,Nat.reduceEqDiff,reduceCtorEq,Nat.reduceAdd,Nat.reduceLeDiff,ne_eq,Nat.reduceLT,Int.reduceLT,Int.reduceLE,Int.reduceNeg]
 refine (h0 _ _ _).trans ?_
 simp only [E49,EVT,EVD,↓reduceIte,Nat.reduceEqDiff,reduceCtorEq,Nat.reduceAdd,Nat.reduceLeDiff,ne_eq,Nat.reduceLT,Int.reduceLT,Int.reduceLE,Int.reduceNeg]
theorem k49 (s:Bytes) (hs:s.length≤1000000) (M:AMem):callOp (acall tabS) 49 [.str s] M=some (.str (escN s),M):=callOp0 (c49 s hs) rfl rfl rfl rfl rfl M
theorem c46 (w:Bytes) (hw:w.length≤100) (n:Int) (h:okI n):acall tabS 46 [.str w,eI n] []=some (.str (fldN ⟨w,n,[]⟩),[]):=by
 refine acall_ex rfl rfl rfl ?_
 by_cases hn:n=0
 ·have hb:(n==0)=true:=by simpa using hn
  simp only [fn46,E46,hb,EVT,EVD,↓reduceIte,Nat.reduceEqDiff,reduceCtorEq,Nat.reduceAdd,Nat.reduceLeDiff,ne_eq,Nat.reduceLT,Int.reduceLT,Int.reduceLE,Int.reduceNeg]
  simp [fldN,hn]
 ·have hb:(n==0)=false:=by simpa using hn
  have hl:=itoa_le h
  simp (disch:=omega) only [fn46,E46,hb,k37 n h,EVT,EVD,↓reduceIte,Nat.reduceEqDiff,reduceCtorEq,Nat.reduceAdd,Nat.reduceLeDiff,ne_eq,Nat.reduceLT,Int.reduceLT,Int.reduceLE,Int.reduceNeg]
  simp [fldN,hn]
theorem k46 (w:Bytes) (hw:w.length≤100) (n:Int) (h:okI n) (M:AMem):callOp (acall tabS) 46 [.str w,eI n] M=some (.str (fldN ⟨w,n,[]⟩),M):=callOp0 (c46 w hw n h) rfl rfl rfl rfl rfl M
theorem c47 (w s:Bytes) (hw:w.length≤100) (h:s.length≤1000000):acall tabS 47 [.str w,.str s] []=some (.str (fldN ⟨w,0,escN s⟩),[]):=by
 refine acall_ex rfl rfl rfl ?_
 by_cases hn:s=[]
 ·have hb:(s==[])=true:=by simpa using hn
  simp only [fn47,E47,hb,EVT,EVD,↓reduceIte,Nat.reduceEqDiff,reduceCtorEq,Nat.reduceAdd,Nat.reduceLeDiff,ne_eq,Nat.reduceLT,Int.reduceLT,Int.reduceLE,Int.reduceNeg]
  simp [fldN,hn,escN]
 ·have hb:(s==[])=false:=by simpa using hn
  have he:escN s≠[]:=fun e=>hn (escN_nil.1 e)
  have hl:=escN_le s
  simp (disch:=omega) only [fn47,E47,hb,k49 s h,EVT,EVD,↓reduceIte,Nat.reduceEqDiff,reduceCtorEq,Nat.reduceAdd,Nat.reduceLeDiff,ne_eq,Nat.reduceLT,Int.reduceLT,Int.reduceLE,Int.reduceNeg]
  simp [fldN,he]
theorem k47 (w s:Bytes) (hw:w.length≤100) (h:s.length≤1000000) (M:AMem):callOp (acall tabS) 47 [.str w,.str s] M=some (.str (fldN ⟨w,0,escN s⟩),M):=callOp0 (c47 w s hw h) rfl rfl rfl rfl rfl M
theorem c45:acall tabS 45 [] []=some (.slice .sh (wordsL.tail.map .str),[]):=by
 refine acall_ex rfl rfl rfl ?_
 simp only [fn45,E45,EVT,EVD,↓reduceIte,Nat.reduceEqDiff,reduceCtorEq,Nat.reduceAdd,Nat.reduceLeDiff,ne_eq,Nat.reduceLT,Int.reduceLT,Int.reduceLE,Int.reduceNeg]
 rfl
theorem k45 (M:AMem):callOp (acall tabS) 45 [] M=some (.slice .sh (wordsL.tail.map .str),M):=callOp0 c45 rfl rfl rfl rfl rfl M
theorem words_tail {k:Nat} (h:k<17):wordsL.tail[k]?=some (wordsL.getD (k+1) []):=by
 have:k+1<wordsL.length:=by show k+1<18; omega
 rw [List.getElem?_tail,List.getD_eq_getElem?_getD,List.getElem?_eq_getElem this]
 rfl
theorem k46' {w:Bytes} (hw:w.length≤100) {n:Int} (h:okI n):∃t:Bytes,t.length≤4000000∧fldN ⟨w,n,[]⟩=t∧∀M,callOp (acall tabS) 46 [.str w,eI n] M=some (.str t,M) :=
 ⟨_,by have:=fldN_le' (f:=⟨w,n,[]⟩) h; simp only [List.length_nil] at this; omega,rfl,k46 w hw n h⟩
theorem k47' {w s:Bytes} (hw:w.length≤100) (h:s.length≤1000000):∃t:Bytes,t.length≤4000000∧fldN ⟨w,0,escN s⟩=t∧∀M,callOp (acall tabS) 47 [.str w,.str s] M=some (.str t,M) :=
 ⟨_,by have:=fldN_le' (f:=⟨w,0,escN s⟩) okI_zero; have h2:=escN_le s; simp only at this; omega,rfl,k47 w s hw h⟩
theorem c16 (o:Op) (h:OpOk o):acall tabS 16 [eOp .sh o] []=some (.str (opN o),[]):=by
 refine acall_ex rfl rfl rfl ?_
 obtain ⟨t1,l1,e1,h1⟩:=k46' (w:=wClient) (by decide) h.client
 obtain ⟨t2,l2,e2,h2⟩:=k47' (w:=wPath) (by decide) h.path
 obtain ⟨t3,l3,e3,h3⟩:=k47' (w:=wTo) (by decide) h.dest
 obtain ⟨t4,l4,e4,h4⟩:=k46' (w:=wN) (by decide) h.n
 obtain ⟨t5,l5,e5,h5⟩:=k46' (w:=wM) (by decide) h.m
 obtain ⟨t6,l6,e6,h6⟩:=k46' (w:=wHandle) (by decide) h.handle
 obtain ⟨t7,l7,e7,h7⟩:=k47' (w:=wData) (by decide) h.data
 have h0:=k37 o.kind h.kind
 have hl0:=itoa_le h.kind
 have hl1:=firstN_le h.kind
 have hop:opN o=firstN o.kind++(t1++(t2++(t3++(t4++(t5++(t6++t7)))))):=by
  simp [opN,lineN,opFlds,fldsN,e1,e2,e3,e4,e5,e6,e7]
 simp only [wClient,wPath,wTo,wN,wM,wHandle,wData] at h1 h2 h3 h4 h5 h6 h7
 have hkk:=h.kind
 unfold okI at hkk
 by_cases hk:1≤o.kind∧o.kind≤17
 ·have hb1:decide (1≤o.kind)=true:=by simpa using hk.1
  have hb2:decide (o.kind≤17)=true:=by simpa using hk.2
  have hi:IntKind.i64.wrap (o.kind-1)=((o.kind.toNat-1:Nat):Int):=by rw [wrapS (by omega) (by omega)]; omega
  have hf:firstN o.kind=wordsL.getD (o.kind.toNat-1+1) []:=by
   unfold firstN
   rw [if_pos (by omega),show o.kind.toNat-1+1=o.kind.toNat by omega]
  have hw:=words_tail (k:=o.kind.toNat-1) (by omega)
  rw [←hf] at hw
  rw [hop]
  generalize firstN o.kind=t0 at *
  have y0:=max_lt (1+1+(Lib.itoa o.kind).length) (by omega)
  have y0':=max_lt (2+(Lib.itoa o.kind).length) (by omega)
  have y1:=max_lt (t0.length+t1.length) (by omega)
  have y2:=max_lt (t0.length+t1.length+t2.length) (by omega)
  have y3:=max_lt (t0.length+t1.length+t2.length+t3.length) (by omega)
  have y4:=max_lt (t0.length+t1.length+t2.length+t3.length+t4.length) (by omega)
  have y5:=max_lt (t0.length+t1.length+t2.length+t3.length+t4.length+t5.length) (by omega)
  have y6:=max_lt (t0.length+t1.length+t2.length+t3.length+t4.length+t5.length+t6.length) (by omega)
  have y7:=max_lt (t0.length+t1.length+t2.length+t3.length+t4.length+t5.length+t6.length+t7.length) (by omega)
  simp only [fn16,E16,eOp,eOpC,y0,y0',y1,y2,y3,y4,y5,y6,y7,h0,hb1,hb2,k45,hi,hw,natI,h1,h2,h3,h4,h5,h6,h7,bytes_u8,EVT,EVD,↓reduceIte,Nat.reduceEqDiff,reduceCtorEq,Nat.reduceAdd,Nat.reduceLeDiff,ne_eq,Nat.reduceLT,Int.reduceLT,Int.reduceLE,Int.reduceNeg]
  simp only [List.append_assoc]
 ·have hf:firstN o.kind=111::112::Lib.itoa o.kind:=by
   unfold firstN
   rw [if_neg (by omega)]
  rw [hop]
  obtain ⟨t0,ht0⟩:∃t,firstN o.kind=t:=⟨_,rfl⟩
  rw [hf] at ht0
  rw [hf,ht0]
  have hl3:t0.length≤23:=by rw [←ht0]; simp; omega
  have y0:=max_lt (1+1+(Lib.itoa o.kind).length) (by omega)
  have y0':=max_lt (2+(Lib.itoa o.kind).length) (by omega)
  have y1:=max_lt (t0.length+t1.length) (by omega)
  have y2:=max_lt (t0.length+t1.length+t2.length) (by omega)
  have y3:=max_lt (t0.length+t1.length+t2.length+t3.length) (by omega)
  have y4:=max_lt (t0.length+t1.length+t2.length+t3.length+t4.length) (by omega)
  have y5:=max_lt (t0.length+t1.length+t2.length+t3.length+t4.length+t5.length) (by omega)
  have y6:=max_lt (t0.length+t1.length+t2.length+t3.length+t4.length+t5.length+t6.length) (by omega)
  have y7:=max_lt (t0.length+t1.length+t2.length+t3.length+t4.length+t5.length+t6.length+t7.length) (by omega)
  by_cases h9:1≤o.kind
  ·have hb1:decide (1≤o.kind)=true:=by simpa using h9
   have hb2:decide (o.kind≤17)=false:=by simp; omega
   simp only [fn16,E16,eOp,eOpC,y0,y0',h0,hb1,hb2,ht0,EVT,EVD,↓reduceIte,Nat.reduceEqDiff,reduceCtorEq,Nat.reduceAdd,Nat.reduceLeDiff,ne_eq,Nat.reduceLT,Int.reduceLT,Int.reduceLE,Int.reduceNeg]
   simp only [E16,y1,y2,y3,y4,y5,y6,y7,h1,h2,h3,h4,h5,h6,h7,bytes_u8,EVT,EVD,↓reduceIte,Nat.reduceEqDiff,reduceCtorEq,Nat.reduceAdd,Nat.reduceLeDiff,ne_eq,Nat.reduceLT,Int.reduceLT,Int.reduceLE,Int.reduceNeg]
   simp only [List.append_assoc]
  ·have hb1:decide (1≤o.kind)=false:=by simp; omega
   simp only [fn16,E16,eOp,eOpC,y0,y0',h0,hb1,ht0,EVT,EVD,↓reduceIte,Nat.reduceEqDiff,reduceCtorEq,Nat.reduceAdd,Nat.reduceLeDiff,ne_eq,Nat.reduceLT,Int.reduceLT,Int.reduceLE,Int.reduceNeg]
   simp only [E16,y1,y2,y3,y4,y5,y6,y7,h1,h2,h3,h4,h5,h6,h7,bytes_u8,EVT,EVD,↓reduceIte,Nat.reduceEqDiff,reduceCtorEq,Nat.reduceAdd,Nat.reduceLeDiff,ne_eq,Nat.reduceLT,Int.reduceLT,Int.reduceLE,Int.reduceNeg]
   simp only [List.append_assoc]
theorem k16 (o:Op) (h:OpOk o) (M:AMem):callOp (acall tabS) 16 [eOp .sh o] M=some (.str (opN o),M):=callOp0 (c16 o h) rfl rfl rfl rfl rfl M
end Go.Proofs.YtannopdcbocngaaGreatDoor
namespace Go.Proofs.YtannopdcbocngaaGreatDoor
open Go Go.Abs
attribute [local irreducible] exK opsK opK gK forkK kr acall callOp owhen obind
theorem ix0 {α:Type} (x:α) (l:List α):(x::l)[Int.toNat 0]?=some x:=rfl
def commaN (r:List Bytes):Bytes:=r.flatMap fun x=>44::escN x
theorem commaN_cons (x:Bytes) (r:List Bytes):commaN (x::r)=[44]++escN x++commaN r:=by simp [commaN]
theorem sumL_cons (x:Bytes) (r:List Bytes):sumL (x::r)=x.length+sumL r:=by simp [sumL]
theorem namesN_cons (x:Bytes) (r:List Bytes):namesN (x::r)=[32,110,97,109,101,115,61]++escN x++commaN r:=by
 unfold namesN
 rw [if_pos (by simp),List.map_cons,Lib.join_cons]
 have:Lib.joinTail [44] (r.map escN)=commaN r:=by
  unfold Lib.joinTail commaN
  rw [List.map_map,←List.flatMap_def]
  rfl
 rw [this]
 simp [wNames]
theorem loop18 (a:Ans) (h:AnsOk a) (C:CallF) (hC:C=acall tabS):∀(r pre:List Bytes),a.names=pre++r→0<pre.length→∀(t:Bytes),t.length+3*sumL r+r.length≤1000000000→∀(fn:List ARes) (base:Nat) (k:List K),
  exK C fn base (.block 0::k) (.loop [1,3,4] lb18_0) [(1,.ptr 0 0),(3,.str t),(4,eI pre.length)] [.cells (eAnsC .sh .sh a)] =
  kr C fn base k ⟨.normal,[(1,.ptr 0 0),(3,.str (t++commaN r)),(4,eI a.names.length),(33,.bool false)],[.cells (eAnsC .sh .sh a)]⟩
 | [],pre,he,hp,t,ht,fn,base,k=>by
  subst hC
  have hpre:pre=a.names:=by simpa using he.symm
  have hlt:decide ((pre.length:Int)<a.names.length)=false:=by rw [hpre]; simp
  rw [exK_loop]
  have h0:t++commaN []=t:=by simp [commaN]
  rw [h0]
  rw [hpre] at hlt ⊢
  simp only [E18,eAnsC,hlt,EVT,EVD,↓reduceIte,Nat.reduceEqDiff,reduceCtorEq,Nat.reduceAdd,Nat.reduceLeDiff,ne_eq,Nat.reduceLT,Int.reduceLT,Int.reduceLE,Int.reduceNeg]
 |x::r,pre,he,hp,t,ht,fn,base,k=>by
  subst hC
  have hl':pre.length<a.names.length:=by rw [he]; simp
  have hlt:decide ((pre.length:Int)<a.names.length)=true:=by simpa using hl'
  have hix:a.names[pre.length]?=some x:=by rw [he]; simp
  have hn:(0:Int)≤pre.length:=by omega
  have hz:((pre.length:Int)==0)=false:=by simp; intro e; rw [e] at hp; simp at hp
  have hnl:=h.names
  have hw:IntKind.i64.wrap ((pre.length:Int)+1)=((pre++[x]).length:Int):=by rw [List.length_append,wrapS (by omega) (by omega)]; simp
  have hsx:x.length≤1000000:=by
   have:=sumL_mem (l:=a.names) (x:=x) (by rw [he]; simp)
   have:=h.sum; omega
  have hle:=escN_le x
  rw [sumL_cons,List.length_cons] at ht
  have ih:=loop18 a h (acall tabS) rfl r (pre++[x]) (by simpa using he) (by simp) (t++[44]++escN x) (by simp; omega) fn base k
  have hfr:t++[44]++escN x++commaN r=t++commaN (x::r):=by rw [commaN_cons]; simp
  rw [hfr] at ih
  simp only [List.length_append,List.length_cons,List.length_nil,Nat.zero_add,eAnsC] at ih hw
  have m1:=max_lt (t.length+1) (by omega)
  have m2:=max_lt (t.length+1+(escN x).length) (by omega)
  rw [exK_loop]
  simp only [E18,eAnsC,hlt,hix,hn,hz,m1,m2,k49 x hsx,hw,EVT,EVD,↓reduceIte,Nat.reduceEqDiff,reduceCtorEq,Nat.reduceAdd,Nat.reduceLeDiff,ne_eq,Nat.reduceLT,Int.reduceLT,Int.reduceLE,Int.reduceNeg]
  exact ih
theorem c18 (a:Ans) (h:AnsOk a):acall tabS 18 [eAns .sh .sh a] []=some (.str (ansN a),[]):=by
 refine acall_ex rfl rfl rfl ?_
 obtain ⟨t1,l1,e1,h1⟩:=k46' (w:=wIno) (by decide) h.ino
 obtain ⟨t2,l2,e2,h2⟩:=k46' (w:=wKind) (by decide) h.kind
 obtain ⟨t3,l3,e3,h3⟩:=k46' (w:=wN) (by decide) h.n
 obtain ⟨t4,l4,e4,h4⟩:=k46' (w:=wM) (by decide) h.m
 obtain ⟨t5,l5,e5,h5⟩:=k47' (w:=wData) (by decide) h.data
 have h0:=k37 a.err h.err
 have hl0:=itoa_le h.err
 have hl1:=errN_le h.err
 have hnm:=namesN_le h
 have hop:ansN a=errN a.err++t1++t2++t3++t4++namesN a.names++t5:=by
  simp [ansN,lineN,ansFlds,fldsN,e1,e2,e3,e4,e5]
 simp only [wIno,wKind,wN,wM,wData] at h1 h2 h3 h4 h5
 have hz:(((a.err==0)=true)∧errN a.err=[111,107])∨(((a.err==0)=false)∧errN a.err=101::114::114::111::114::Lib.itoa a.err):=by
  by_cases hk:a.err=0
  ·exact .inl ⟨by simp [hk],by unfold errN; rw [if_neg (by simpa using hk)]⟩
  ·exact .inr ⟨by simp [hk],by unfold errN; rw [if_pos (by simpa using hk)]⟩
 rw [hop]
 have y0:=max_lt (5+(Lib.itoa a.err).length) (by omega)
 have y0':=max_lt (1+1+1+1+1+(Lib.itoa a.err).length) (by omega)
 obtain ⟨t0,ht0⟩:∃t,errN a.err=t:=⟨_,rfl⟩
 rw [ht0] at hl1 hz ⊢
 have y1:=max_lt (t0.length+t1.length) (by omega)
 have y2:=max_lt (t0.length+t1.length+t2.length) (by omega)
 have y3:=max_lt (t0.length+t1.length+t2.length+t3.length) (by omega)
 have y4:=max_lt (t0.length+t1.length+t2.length+t3.length+t4.length) (by omega)
 have hd:∀fn base k,exK (acall tabS) fn base (.block 0::k) (.loop [1,3,4] lb18_0) [(1,.ptr 0 0),(3,.str (t0++t1++t2++t3++t4)),(4,eI 0)] [.cells (eAnsC .sh .sh a)] =
   kr (acall tabS) fn base k ⟨.normal,[(1,.ptr 0 0),(3,.str (t0++t1++t2++t3++t4++namesN a.names)),(4,eI a.names.length),(33,.bool false)],[.cells (eAnsC .sh .sh a)]⟩:=by
  intro fn base k
  rw [exK_loop]
  cases hnames:a.names with
  |nil =>
   rw [show namesN ([]:List Bytes)=[] from rfl,List.append_nil]
   simp only [E18,eAnsC,hnames,List.map_nil,List.length_nil,show decide ((0:Int)<((0:Nat):Int))=false from rfl,EVT,EVD,↓reduceIte,Nat.reduceEqDiff,reduceCtorEq,Nat.reduceAdd,Nat.reduceLeDiff,ne_eq,Nat.reduceLT,Int.reduceLT,Int.reduceLE,Int.reduceNeg]
   rfl
  |cons x r =>
   have hsx:x.length≤1000000:=by
    have:=sumL_mem (l:=a.names) (x:=x) (by rw [hnames]; simp)
    have:=h.sum; omega
   have hle:=escN_le x
   have hsum:=h.sum
   have hlen:=h.names
   rw [hnames,sumL_cons] at hsum
   rw [hnames,List.length_cons] at hlen
   generalize ht:t0++t1++t2++t3++t4=t at *
   have htl:t.length≤20000000:=by rw [←ht]; simp; omega
   have m1:=max_lt (t.length+7) (by omega)
   have m1':=max_lt (t.length+1+1+1+1+1+1+1) (by omega)
   have m2:=max_lt (t.length+7+(escN x).length) (by omega)
   have ih:=loop18 a h (acall tabS) rfl r [x] (by simpa using hnames) (by simp) (t++[32,110,97,109,101,115,61]++escN x) (by simp; omega) fn base k
   have hfr:t++[32,110,97,109,101,115,61]++escN x++commaN r=t++namesN (x::r):=by rw [namesN_cons]; simp
   rw [hfr,hnames] at ih
   simp only [List.length_append,List.length_cons,List.length_nil,Nat.zero_add,eAnsC,hnames] at ih
   have hlt:decide ((0:Int)<((r.length+1:Nat):Int))=true:=by simp
   simp only [E18,eAnsC,hnames,hlt,List.length_cons,m1,m1',m2,k49 x hsx,ix0,show IntKind.i64.wrap (0+1)=1 from by decide,EVT,EVD,↓reduceIte,Nat.reduceEqDiff,reduceCtorEq,Nat.reduceAdd,Nat.reduceLeDiff,ne_eq,Nat.reduceLT,Int.reduceLT,Int.reduceLE,Int.reduceNeg]
   exact ih
 simp only [eAnsC] at hd
 have hnl:(namesN a.names).length≤4000007:=hnm
 obtain ⟨t6,ht6⟩:∃t,namesN a.names=t:=⟨_,rfl⟩
 rw [ht6] at hnl ⊢
 have m5:=max_lt (t0.length+t1.length+t2.length+t3.length+t4.length+t6.length+t5.length) (by omega)
 rcases hz with ⟨hb,hz⟩|⟨hb,hz⟩
 ·simp only [fn18,E18,eAns,eAnsC,h0,y0,y0',hb,EVT,EVD,↓reduceIte,Nat.reduceEqDiff,reduceCtorEq,Nat.reduceAdd,Nat.reduceLeDiff,ne_eq,Nat.reduceLT,Int.reduceLT,Int.reduceLE,Int.reduceNeg]
  rw [←hz]
  simp only [E18,y1,y2,y3,y4,h1,h2,h3,h4,EVT,EVD,↓reduceIte,Nat.reduceEqDiff,reduceCtorEq,Nat.reduceAdd,Nat.reduceLeDiff,ne_eq,Nat.reduceLT,Int.reduceLT,Int.reduceLE,Int.reduceNeg]
  refine (hd _ _ _).trans ?_
  rw [ht6]
  simp only [E18,bytes_u8,h5,m5,EVT,EVD,↓reduceIte,Nat.reduceEqDiff,reduceCtorEq,Nat.reduceAdd,Nat.reduceLeDiff,ne_eq,Nat.reduceLT,Int.reduceLT,Int.reduceLE,Int.reduceNeg]
 ·simp only [fn18,E18,eAns,eAnsC,h0,y0,y0',hb,EVT,EVD,↓reduceIte,Nat.reduceEqDiff,reduceCtorEq,Nat.reduceAdd,Nat.reduceLeDiff,ne_eq,Nat.reduceLT,Int.reduceLT,Int.reduceLE,Int.reduceNeg]
  rw [←hz]
  simp only [E18,y1,y2,y3,y4,h1,h2,h3,h4,EVT,EVD,↓reduceIte,Nat.reduceEqDiff,reduceCtorEq,Nat.reduceAdd,Nat.reduceLeDiff,ne_eq,Nat.reduceLT,Int.reduceLT,Int.reduceLE,Int.reduceNeg]
  refine (hd _ _ _).trans ?_
  rw [ht6]
  simp only [E18,bytes_u8,h5,m5,EVT,EVD,↓reduceIte,Nat.reduceEqDiff,reduceCtorEq,Nat.reduceAdd,Nat.reduceLeDiff,ne_eq,Nat.reduceLT,Int.reduceLT,Int.reduceLE,Int.reduceNeg]
theorem k18 (a:Ans) (h:AnsOk a) (M:AMem):callOp (acall tabS) 18 [eAns .sh .sh a] M=some (.str (ansN a),M):=callOp0 (c18 a h) rfl rfl rfl rfl rfl M
theorem loop21 (l:List Event) (hok:∀e,e∈l→EvOk e) (hl:l.length≤100000) (C:CallF) (hC:C=acall tabS):∀(r pre:List Event),l=pre++r→∀(t:Bytes),t.length≤10000100*pre.length→∀(fn:List ARes) (base:Nat) (k:List K),
  exK C fn base (.block 0::k) (.loop [0,3,4] lb21_0) [(0,.slice .sh (l.map eEv)),(3,.str t),(4,eI pre.length)] [] =
  kr C fn base k ⟨.normal,[(0,.slice .sh (l.map eEv)),(3,.str (t++histN r)),(4,eI l.length),(9,.bool false)],[]⟩
 | [],pre,he,t,ht,fn,base,k=>by
  subst hC
  have:pre=l:=by simpa using he.symm
  subst this
  rw [exK_loop]
  have hlt:decide ((pre.length:Int)<pre.length)=false:=by simp
  have h0:t++histN []=t:=by simp [histN]
  rw [h0]
  simp only [E21,hlt,EVT,EVD,↓reduceIte,Nat.reduceEqDiff,reduceCtorEq,Nat.reduceAdd,Nat.reduceLeDiff,ne_eq,Nat.reduceLT,Int.reduceLT,Int.reduceLE,Int.reduceNeg]
 |e::r,pre,he,t,ht,fn,base,k=>by
  subst hC
  have hl':pre.length<l.length:=by rw [he]; simp
  have hlt:decide ((pre.length:Int)<l.length)=true:=by simpa using hl'
  have hix:l[pre.length]?=some e:=by rw [he]; simp
  have hn:(0:Int)≤pre.length:=by omega
  have hw:IntKind.i64.wrap ((pre.length:Int)+1)=((pre++[e]).length:Int):=by rw [List.length_append,wrapS (by omega) (by omega)]; simp
  have hfo:=hok e (by rw [he]; simp)
  have h4:=evN_le hfo
  have ho:=opN_le hfo.op; have ha:=ansN_le hfo.ans; have hi:=itoa_le hfo.client
  have ih:=loop21 l hok hl (acall tabS) rfl r (pre++[e]) (by simpa using he) (t++evN e) (by simp; omega) fn base k
  have hfr:t++evN e++histN r=t++histN (e::r):=by simp [histN]
  rw [hfr] at ih
  generalize t++histN (e::r)=u at ih ⊢
  have h37:=k37 e.client hfo.client
  have h16:=k16 e.op hfo.op
  have h18:=k18 e.ans hfo.ans
  simp only [eOpC,eAnsC,eOp,eAns] at h16 h18
  simp only [List.length_append,List.length_cons,List.length_nil,Nat.zero_add] at hw
  obtain ⟨ic,hic⟩:∃x,Lib.itoa e.client=x:=⟨_,rfl⟩
  obtain ⟨oc,hoc⟩:∃x,opN e.op=x:=⟨_,rfl⟩
  obtain ⟨ac,hac⟩:∃x,ansN e.ans=x:=⟨_,rfl⟩
  rw [hic] at h37 hi; rw [hoc] at h16 ho; rw [hac] at h18 ha
  have a1:=max_lt (t.length+6) (by omega)
  have a2:=max_lt (t.length+6+ic.length) (by omega)
  have a3:=max_lt (t.length+6+ic.length+2) (by omega)
  have a4:=max_lt (t.length+6+ic.length+2+oc.length) (by omega)
  have a5:=max_lt (t.length+6+ic.length+2+oc.length+1) (by omega)
  have b1:=max_lt (t.length+4) (by omega)
  have b2:=max_lt (t.length+4+ic.length) (by omega)
  have b3:=max_lt (t.length+4+ic.length+2) (by omega)
  have b4:=max_lt (t.length+4+ic.length+2+ac.length) (by omega)
  have b5:=max_lt (t.length+4+ic.length+2+ac.length+1) (by omega)
  rw [exK_loop]
  simp only [E21,hlt,hix,eEvC,EVT,EVD,↓reduceIte,Nat.reduceEqDiff,reduceCtorEq,Nat.reduceAdd,Nat.reduceLeDiff,ne_eq,Nat.reduceLT,Int.reduceLT,Int.reduceLE,Int.reduceNeg]
  refine fork_split (fun hb=>?_) (fun hb=>?_)
  ·have he1:e.kind=1:=by simpa using hb
   have hc:(e.kind==2)=false:=by rw [he1]; rfl
   have he2:t++evN e=t++[98,101,103,105,110,32]++ic++[58,32]++oc++[10]:=by rw [evN,if_pos he1,hic,hoc]; simp
   rw [he2] at ih
   simp only [List.length_append,List.length_cons,List.length_nil,Nat.zero_add] at ih
   simp only [E21,hb,hc,hn,h37,h16,a1,a2,a3,a4,a5,EVT,EVD,↓reduceIte,Nat.reduceEqDiff,reduceCtorEq,Nat.reduceAdd,Nat.reduceLeDiff,ne_eq,Nat.reduceLT,Int.reduceLT,Int.reduceLE,Int.reduceNeg]
   simp only [E21,hw,EVT,EVD,↓reduceIte,Nat.reduceEqDiff,reduceCtorEq,Nat.reduceAdd,Nat.reduceLeDiff,ne_eq,Nat.reduceLT,Int.reduceLT,Int.reduceLE,Int.reduceNeg]
   exact ih
  ·simp only [E21,hb,hn,EVT,EVD,↓reduceIte,Nat.reduceEqDiff,reduceCtorEq,Nat.reduceAdd,Nat.reduceLeDiff,ne_eq,Nat.reduceLT,Int.reduceLT,Int.reduceLE,Int.reduceNeg]
   refine fork_split (fun hc=>?_) (fun hc=>?_)
   ·have he2:t++evN e=t++[101,110,100,32]++ic++[58,32]++ac++[10]:=by rw [evN,if_neg (by simpa using hb),if_pos (by simpa using hc),hic,hac]; simp
    rw [he2] at ih
    simp only [List.length_append,List.length_cons,List.length_nil,Nat.zero_add] at ih
    simp only [E21,hb,hc,hn,h37,h18,b1,b2,b3,b4,b5,EVT,EVD,↓reduceIte,Nat.reduceEqDiff,reduceCtorEq,Nat.reduceAdd,Nat.reduceLeDiff,ne_eq,Nat.reduceLT,Int.reduceLT,Int.reduceLE,Int.reduceNeg]
    simp only [E21,hw,EVT,EVD,↓reduceIte,Nat.reduceEqDiff,reduceCtorEq,Nat.reduceAdd,Nat.reduceLeDiff,ne_eq,Nat.reduceLT,Int.reduceLT,Int.reduceLE,Int.reduceNeg]
    exact ih
   ·have he2:evN e=[]:=by rw [evN,if_neg (by simpa using hb),if_neg (by simpa using hc)]
    rw [he2,List.append_nil] at ih
    simp only [List.length_append,List.length_cons,List.length_nil,Nat.add_zero,Nat.zero_add] at ih
    simp only [E21,hb,hc,hn,hw,EVT,EVD,↓reduceIte,Nat.reduceEqDiff,reduceCtorEq,Nat.reduceAdd,Nat.reduceLeDiff,ne_eq,Nat.reduceLT,Int.reduceLT,Int.reduceLE,Int.reduceNeg]
    exact ih
theorem c21 (l:List Event) (hok:∀e,e∈l→EvOk e) (hl:l.length≤100000):acall tabS 21 [.slice .sh (l.map eEv)] []=some (.str (histN l),[]):=by
 refine acall_ex rfl rfl rfl ?_
 have h0:=loop21 l hok hl (acall tabS) rfl l [] rfl [] (by simp)
 simp only [List.length_nil,List.nil_append] at h0
 simp only [fn21,E21,EVT,EVD,↓reduceIte,Nat.reduceEqDiff,reduceCtorEq,Nat.reduceAdd,Nat.reduceLeDiff,ne_eq,Nat.reduceLT,Int.reduceLT,Int.reduceLE,Int.reduceNeg]
 refine (h0 _ _ _).trans ?_
 simp only [E21,EVT,EVD,↓reduceIte,Nat.reduceEqDiff,reduceCtorEq,Nat.reduceAdd,Nat.reduceLeDiff,ne_eq,Nat.reduceLT,Int.reduceLT,Int.reduceLE,Int.reduceNeg]
theorem k21 (l:List Event) (hok:∀e,e∈l→EvOk e) (hl:l.length≤100000) (M:AMem):callOp (acall tabS) 21 [.slice .sh (l.map eEv)] M=some (.str (histN l),M):=callOp0 (c21 l hok hl) rfl rfl rfl rfl rfl M
end Go.Proofs.YtannopdcbocngaaGreatDoor
namespace Go.Proofs.YtannopdcbocngaaGreatDoor
open Go Go.Abs
attribute [local irreducible] exK opsK opK gK forkK kr acall callOp owhen obind
def sameEvB (x y:Event):Bool:=decide (x.kind=y.kind∧x.client=y.client∧opN x.op=opN y.op∧ansN x.ans=ansN y.ans)
def sameEvs:List Event→List Event→Bool
 | [],[]=>true
 |x::a,y::b=>sameEvB x y&&sameEvs a b
 |_,_=>false
theorem loop32 (a b:List Event) (ha:∀e,e∈a→EvOk e) (hb:∀e,e∈b→EvOk e) (hl:a.length≤100000) (C:CallF) (hC:C=acall tabS):∀(r r' pre pre':List Event),a=pre++r→b=pre'++r'→pre.length=pre'.length→r.length=r'.length →
  exK C [.tmp 4] 0 [.block 0,.seq q32_4] (.loop [0,1,5] lb32_0) [(0,.slice .sh (a.map eEv)),(1,.slice .sh (b.map eEv)),(5,eI pre.length)] [] =
  some (.bool (sameEvs r r'),[])
 | [],r',pre,pre',he,he',hp,hr=>by
  subst hC
  have:r'=[]:=by simpa using hr.symm
  subst this
  have hpa:pre=a:=by simpa using he.symm
  rw [exK_loop]
  have hlt:decide ((pre.length:Int)<a.length)=false:=by rw [hpa]; simp
  simp only [E32,hlt,sameEvs,EVT,EVD,↓reduceIte,Nat.reduceEqDiff,reduceCtorEq,Nat.reduceAdd,Nat.reduceLeDiff,ne_eq,Nat.reduceLT,Int.reduceLT,Int.reduceLE,Int.reduceNeg]
 |x::r,[],pre,pre',he,he',hp,hr=>by simp at hr
 |x::r,y::r',pre,pre',he,he',hp,hr=>by
  subst hC
  have hl':pre.length<a.length:=by rw [he]; simp
  have hlt:decide ((pre.length:Int)<a.length)=true:=by simpa using hl'
  have hix:a[pre.length]?=some x:=by rw [he]; simp
  have hiy:b[pre.length]?=some y:=by rw [he',hp]; simp
  have hn:(0:Int)≤pre.length:=by omega
  have hw:IntKind.i64.wrap ((pre.length:Int)+1)=((pre++[x]).length:Int):=by rw [List.length_append,wrapS (by omega) (by omega)]; simp
  have ex:=ha x (by rw [he]; simp)
  have ey:=hb y (by rw [he']; simp)
  have h1:=k16 x.op ex.op
  have h2:=k16 y.op ey.op
  have h3:=k18 x.ans ex.ans
  have h4:=k18 y.ans ey.ans
  simp only [eOp,eOpC,eAns,eAnsC] at h1 h2 h3 h4
  have ih:=loop32 a b ha hb hl (acall tabS) rfl r r' (pre++[x]) (pre'++[y]) (by simpa using he) (by simpa using he') (by simpa using hp) (by simpa using hr)
  simp only [List.length_append,List.length_cons,List.length_nil,Nat.zero_add] at ih hw
  rw [sameEvs]
  rw [exK_loop]
  by_cases c1:x.kind=y.kind
  ·have d1:(x.kind != y.kind)=false:=by simp [c1]
   by_cases c2:x.client=y.client
   ·have d2:(x.client != y.client)=false:=by simp [c2]
    by_cases c3:opN x.op=opN y.op
    ·have d3:(opN y.op != opN y.op)=false:=by simp
     by_cases c4:ansN x.ans=ansN y.ans
     ·have d4:(ansN y.ans != ansN y.ans)=false:=by simp
      have hs:sameEvB x y=true:=by simp [sameEvB,c1,c2,c3,c4]
      simp only [E32,hlt,hix,hiy,hn,eEvC,d1,d2,d3,d4,h1,h2,h3,h4,c3,c4,hw,hs,Bool.true_and,EVT,EVD,↓reduceIte,Nat.reduceEqDiff,reduceCtorEq,Nat.reduceAdd,Nat.reduceLeDiff,ne_eq,Nat.reduceLT,Int.reduceLT,Int.reduceLE,Int.reduceNeg]
      exact ih
     ·have d4:(ansN x.ans != ansN y.ans)=true:=by simpa using c4
      have hs:sameEvB x y=false:=by simp [sameEvB,c4]
      simp only [E32,hlt,hix,hiy,hn,eEvC,d1,d2,d3,d4,h1,h2,h3,h4,c3,hs,Bool.false_and,EVT,EVD,↓reduceIte,Nat.reduceEqDiff,reduceCtorEq,Nat.reduceAdd,Nat.reduceLeDiff,ne_eq,Nat.reduceLT,Int.reduceLT,Int.reduceLE,Int.reduceNeg]
    ·have d3:(opN x.op != opN y.op)=true:=by simpa using c3
     have hs:sameEvB x y=false:=by simp [sameEvB,c3]
     simp only [E32,hlt,hix,hiy,hn,eEvC,d1,d2,d3,h1,h2,h3,h4,hs,Bool.false_and,EVT,EVD,↓reduceIte,Nat.reduceEqDiff,reduceCtorEq,Nat.reduceAdd,Nat.reduceLeDiff,ne_eq,Nat.reduceLT,Int.reduceLT,Int.reduceLE,Int.reduceNeg]
   ·have d2:(x.client != y.client)=true:=by simpa using c2
    have hs:sameEvB x y=false:=by simp [sameEvB,c2]
    simp only [E32,hlt,hix,hiy,hn,eEvC,d1,d2,hs,Bool.false_and,EVT,EVD,↓reduceIte,Nat.reduceEqDiff,reduceCtorEq,Nat.reduceAdd,Nat.reduceLeDiff,ne_eq,Nat.reduceLT,Int.reduceLT,Int.reduceLE,Int.reduceNeg]
  ·have d1:(x.kind != y.kind)=true:=by simpa using c1
   have hs:sameEvB x y=false:=by simp [sameEvB,c1]
   simp only [E32,hlt,hix,hiy,hn,eEvC,d1,hs,Bool.false_and,EVT,EVD,↓reduceIte,Nat.reduceEqDiff,reduceCtorEq,Nat.reduceAdd,Nat.reduceLeDiff,ne_eq,Nat.reduceLT,Int.reduceLT,Int.reduceLE,Int.reduceNeg]
def cutEvN (e:Event):Event:={ e with op:=cutOpN e.op,ans:=cutAnsN e.ans }
def fewN (l:List Event):List Event:=(l.take 20).map cutEvN
theorem wid_evs:∀l:List Event,wid (l.map eEv) 17=True:=by
 intro l
 simp only [eq_iff_iff,iff_true]
 intro x hx
 obtain ⟨s,_,rfl⟩:=List.mem_map.1 hx
 rfl
theorem loop20 (l:List Event) (u:List Event) (hu:fewN l=u) (C:CallF) (hC:C=acall tabS):∀(r pre:List Event),l=pre++r→pre.length≤20→∀(fn:List ARes) (base:Nat) (k:List K),
  exK C fn base (.block 0::k) (.loop [0,3,4] lb20_0) [(0,.slice .sh (l.map eEv)),(3,.slice (.own 0) ((pre.map cutEvN).map eEv)),(4,eI pre.length)] [.tick 17 pre.length] =
  kr C fn base k ⟨.normal,[(0,.slice .sh (l.map eEv)),(3,.slice (.own 0) (u.map eEv)),(4,eI u.length),(14,.bool false)],[.tick 17 u.length]⟩
 | [],pre,he,hp,fn,base,k=>by
  subst hC
  have hpre:pre=l:=by simpa using he.symm
  have hu':u=pre.map cutEvN:=by rw [←hu,fewN,←hpre,List.take_of_length_le hp]
  subst hu'
  have hlt:decide ((pre.length:Int)<l.length)=false:=by rw [hpre]; simp
  rw [exK_loop]
  simp only [E20,hlt,List.length_map,EVT,EVD,↓reduceIte,Nat.reduceEqDiff,reduceCtorEq,Nat.reduceAdd,Nat.reduceLeDiff,ne_eq,Nat.reduceLT,Int.reduceLT,Int.reduceLE,Int.reduceNeg]
 |x::r,pre,he,hp,fn,base,k=>by
  subst hC
  have hl':pre.length<l.length:=by rw [he]; simp
  have hlt:decide ((pre.length:Int)<l.length)=true:=by simpa using hl'
  by_cases h4:pre.length=20
  ·have hu':u=pre.map cutEvN:=by rw [←hu,fewN,he,←h4]; simp
   subst hu'
   have h40:decide ((pre.length:Int)<20)=false:=by rw [h4]; rfl
   rw [exK_loop]
   simp only [E20,hlt,h40,List.length_map,EVT,EVD,↓reduceIte,Nat.reduceEqDiff,reduceCtorEq,Nat.reduceAdd,Nat.reduceLeDiff,ne_eq,Nat.reduceLT,Int.reduceLT,Int.reduceLE,Int.reduceNeg]
  ·have h40:decide ((pre.length:Int)<20)=true:=by simp; omega
   have hix:l[pre.length]?=some x:=by rw [he]; simp
   have hn:(0:Int)≤pre.length:=by omega
   have hw:IntKind.i64.wrap ((pre.length:Int)+1)=((pre++[x]).length:Int):=by rw [List.length_append,wrapS (by omega) (by omega)]; simp
   have hr:=roomO (a:=pre.length+1) (b:=200) (by omega) (by omega)
   have ih:=loop20 l u hu (acall tabS) rfl r (pre++[x]) (by simpa using he) (by simp; omega) fn base k
   have h12:=kS12 x.op
   have h13:=kS13 x.ans
   simp only [eOp,eOpC,eAns,eAnsC] at h12 h13
   simp only [List.length_append,List.length_cons,List.length_nil,Nat.zero_add,List.map_append,List.map_cons,List.map_nil] at ih hw
   rw [exK_loop]
   simp only [E20,eEvC,hlt,h40,hix,hn,hr,h12,h13,List.length_map,EVT,EVD,↓reduceIte,Nat.reduceEqDiff,reduceCtorEq,Nat.reduceAdd,Nat.reduceLeDiff,ne_eq,Nat.reduceLT,Int.reduceLT,Int.reduceLE,Int.reduceNeg]
   simp only [E20,hw,wid_evs,EVT,EVD,↓reduceIte,Nat.reduceEqDiff,reduceCtorEq,Nat.reduceAdd,Nat.reduceLeDiff,ne_eq,Nat.reduceLT,Int.reduceLT,Int.reduceLE,Int.reduceNeg]
   exact ih
theorem c20 (l:List Event):acall tabS 20 [.slice .sh (l.map eEv)] []=some (.slice .sh ((fewN l).map eEv),[]):=by
 refine acall_ex rfl rfl rfl ?_
 have h0:=fun fn base k=>loop20 l _ rfl (acall tabS) rfl l [] rfl (by simp) fn base k
 simp only [List.map_nil,List.length_nil] at h0
 simp only [fn20,E20,EVT,EVD,↓reduceIte,Nat.reduceEqDiff,reduceCtorEq,Nat.reduceAdd,Nat.reduceLeDiff,ne_eq,Nat.reduceLT,Int.reduceLT,Int.reduceLE,Int.reduceNeg]
 refine (h0 _ _ _).trans ?_
 simp only [E20,EVT,EVD,↓reduceIte,Nat.reduceEqDiff,reduceCtorEq,Nat.reduceAdd,Nat.reduceLeDiff,ne_eq,Nat.reduceLT,Int.reduceLT,Int.reduceLE,Int.reduceNeg]
theorem k20 (l:List Event) (M:AMem):callOp (acall tabS) 20 [.slice .sh (l.map eEv)] M=some (.slice .sh ((fewN l).map eEv),M):=callOp0 (c20 l) rfl rfl rfl rfl rfl M
end Go.Proofs.YtannopdcbocngaaGreatDoor
