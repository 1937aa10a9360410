/-
  ReportTellsCardSaid: proved of the given program, for every input that the row allows: see the last text of this claim. Conditions: none beside the row's own.
-/
import Derived.Test.YtannopdcbocngaaGreatDoorTie
import Derived.Test.YtannopdcbocngaaGreatDoorLtE
set_option linter.unusedSimpArgs false
set_option linter.unusedVariables false
set_option linter.unusedSectionVars false
namespace Go.Proofs.YtannopdcbocngaaGreatDoor
open Go Go.Abs
def highAt (nodes:List Node) (at' d:Int) (n:Node):Int :=
 if decide ((0:Int)<n.ents.length)=true then w64 (w64 (w64 (at'+depthN nodes n.ino)-d)+1) else w64 (w64 (at'+depthN nodes n.ino)-d)
theorem highStep_ge (nodes:List Node) (ino at' d:Int) (n:Node) (most:Int):most≤highStep nodes ino at' d n most∧((n.kind==2&&belowN nodes n.ino ino)=true→highAt nodes at' d n≤highStep nodes ino at' d n most):=by
 have e:highStep nodes ino at' d n most=if (n.kind==2&&belowN nodes n.ino ino)=true then (if highAt nodes at' d n>most then highAt nodes at' d n else most) else most:=rfl
 rw [e]
 split
 ·split
  ·exact ⟨by omega,fun _=>Int.le_refl _⟩
  ·exact ⟨Int.le_refl _,fun _=>by omega⟩
 ·rename_i h; exact ⟨Int.le_refl _,fun hh=>absurd hh h⟩
theorem highGo_ge (nodes:List Node) (ino at' d:Int):∀(l:List Node) (most:Int),most≤highGo nodes ino at' d l most∧∀n,n∈l→(n.kind==2&&belowN nodes n.ino ino)=true→highAt nodes at' d n≤highGo nodes ino at' d l most
 | [],most=>⟨Int.le_refl _,fun n hn=>by cases hn⟩
 |m::l,most=>by
  obtain ⟨h1,h2⟩:=highGo_ge nodes ino at' d l (highStep nodes ino at' d m most)
  obtain ⟨h3,h4⟩:=highStep_ge nodes ino at' d m most
  rw [highGo]
  refine ⟨by omega,fun n hn hb=>?_⟩
  rcases List.mem_cons.1 hn with rfl|hn
  ·have:=h4 hb; omega
  ·exact h2 n hn hb
def redep (nodes:List Node) (dep:Int→Nat) (x to:Int):Int→Nat:=fun i=>if belowN nodes i x=true then dep i+(dep to+1)-dep x else dep i
theorem GInv.highAt_eq {t:Tree} {dep:Int→Nat} (h:GInv t dep 0) {x to i:Int} {m n:Node} (hx:find t.nodes x=some m) (hk:m.kind=2) (hd:dep to<12) (hi:find t.nodes i=some n) (hk2:n.kind=2) (hb:belowN t.nodes i x=true) :
  highAt t.nodes (((dep to+1:Nat):Int)) (dep x) n=((redep t.nodes dep x to i+(if 0<n.ents.length then 1 else 0):Nat):Int):=by
 have d1:=(h.deep _ _ hi hk2).1
 have d2:=(h.deep _ _ hx hk).1
 have d3:=h.below_dep _ i n hi hk2 rfl hb
 have hdn:depthN t.nodes n.ino=dep i:=by rw [h.ino hi]; exact h.depthN_eq hi hk2
 have w1:w64 ((((dep to+1:Nat):Int))+(dep i:Nat))=(((dep to+1:Nat):Int))+(dep i:Nat):=wrapS (by omega) (by omega)
 have w2:w64 ((((dep to+1:Nat):Int))+(dep i:Nat)-(dep x:Nat))=(((dep to+1:Nat):Int))+(dep i:Nat)-(dep x:Nat):=wrapS (by omega) (by omega)
 have w3:w64 ((((dep to+1:Nat):Int))+(dep i:Nat)-(dep x:Nat)+1)=(((dep to+1:Nat):Int))+(dep i:Nat)-(dep x:Nat)+1:=wrapS (by omega) (by omega)
 unfold highAt redep
 rw [if_pos hb,hdn,w1,w2,w3]
 by_cases hl:0<n.ents.length
 ·rw [if_pos (by simpa using hl),if_pos hl]; omega
 ·rw [if_neg (by simpa using hl),if_neg hl]; omega
theorem GInv.redeps {t:Tree} {dep:Int→Nat} (h:GInv t dep 0) {x to:Int} {m dT:Node} (hx:find t.nodes x=some m) (hk:m.kind=2) (hx1:x≠1) (hT:find t.nodes to=some dT) (hTk:dT.kind=2) (hnb:belowN t.nodes to x=false) (hd:dep to<12)
  (hh:highN t.nodes x (((dep to+1:Nat):Int))≤12) :
  redep t.nodes dep x to 1=0∧(∀i n,find t.nodes i=some n→n.kind=2→i≠1→i≠x→redep t.nodes dep x to i=redep t.nodes dep x to n.up+1)∧redep t.nodes dep x to x=redep t.nodes dep x to to+1 ∧
   (∀i n,find t.nodes i=some n→n.kind=2→redep t.nodes dep x to i≤12∧(redep t.nodes dep x to i=12→n.ents=[]))∧redep t.nodes dep x to to=dep to:=by
 have hto:redep t.nodes dep x to to=dep to:=by unfold redep; rw [if_neg (by simp [hnb])]
 refine ⟨?_,?_,?_,?_,hto⟩
 ·unfold redep
  rw [if_neg (by simp [GInv.below_root hx1])]
  exact h.dep1
 ·intro i n hi hk2 hi1 hix
  obtain ⟨a,p,b,c⟩:=h.deps _ _ hi hk2 hi1
  have hb:=h.below_up hi hk2 hi1 hix
  unfold redep
  rw [hb]
  split
  ·rename_i hb2
   have:=h.below_dep _ _ p b c rfl hb2
   omega
  ·exact a
 ·rw [hto]
  unfold redep
  rw [if_pos (GInv.below_self x)]
  omega
 ·intro i n hi hk2
  by_cases hb:belowN t.nodes i x=true
  ·have h1:=(highGo_ge t.nodes x (((dep to+1:Nat):Int)) (depthN t.nodes x) t.nodes 0).2 n (find_mem hi).1 (by rw [hk2,h.ino hi,hb]; rfl)
   rw [h.depthN_eq hx hk,h.highAt_eq hx hk hd hi hk2 hb] at h1
   unfold highN at hh
   rw [h.depthN_eq hx hk] at hh
   have h2:=Int.le_trans h1 hh
   split at h2
   ·rename_i hl
    exact ⟨by omega,fun h12=>by omega⟩
   ·rename_i hl
    exact ⟨by omega,fun _=>List.length_eq_zero_iff.1 (by omega)⟩
  ·have:redep t.nodes dep x to i=dep i:=by unfold redep; rw [if_neg hb]
   rw [this]
   exact h.deep _ _ hi hk2
theorem findE_dropE_ne {l:List Ent} {s r:Bytes} (h:r≠s):findE (dropE l s) r=findE l r:=by
 unfold findE dropE
 rw [List.find?_filter]
 congr 1
 funext e
 by_cases he:e.name=r
 ·have hn:e.name≠s:=he▸h
  simp [he,h]
 ·simp [he]
structure MvOk (t:Tree) (dep:Int→Nat) (f:Int) (s:Bytes) (to:Int) (nm:Bytes) (dF dT m:Node) (e:Ent):Prop where
 hF:find t.nodes f=some dF
 kF:dF.kind=2
 he:findE dF.ents s=some e
 hT:find t.nodes to=some dT
 kT:dT.kind=2
 hn:nameOk nm=true
 hm:find t.nodes e.ino=some m
 ne:e.ino≠to
 nf:e.ino≠f
 loop:m.kind=2→belowN t.nodes to e.ino=false
 deep:dep to<12
 high:m.kind=2→highN t.nodes e.ino (((dep to+1:Nat):Int))≤12
 cookie:t.cookie<1099511627776
 room:findE dT.ents nm=none→to≠f→dT.ents.length<64
 onto:∀e2,findE dT.ents nm=some e2→e2.ino≠e.ino∧∃y,find t.nodes e2.ino=some y∧y.ents=[]∧(m.kind=2↔y.kind=2)∧e2.ino≠f∧e2.ino≠to
theorem GInv.mv {t:Tree} {dep:Int→Nat} (h:GInv t dep 0) {f:Int} {s:Bytes} {to:Int} {nm:Bytes} {dF dT m:Node} {e:Ent} (hs:nameOk nm=true→Nm nm) (k:MvOk t dep f s to nm dF dT m e):∃dep',GInv (moveN t f s to nm e.ino (underN dT.ents nm)) dep' 0:=by
 have hem:=(findE_mem k.he).1
 have hx1:=(h.ent _ _ e k.hF hem).2.2.1
 have hcase:∃dep':Int→Nat,dep' to<12∧((m.kind=1∧dep'=dep)∨(m.kind=2∧dep' 1=0∧(∀i n,find t.nodes i=some n→n.kind=2→i≠1→i≠e.ino→dep' i=dep' n.up+1)∧dep' e.ino=dep' to+1 ∧
   ∀i n,find t.nodes i=some n→n.kind=2→dep' i≤12∧(dep' i=12→n.ents=[]))):=by
  rcases h.kind _ _ k.hm with hk|hk
  ·exact ⟨dep,k.deep,.inl ⟨hk,rfl⟩⟩
  ·obtain ⟨c1,c2,c3,c4,c5⟩:=h.redeps k.hm hk hx1 k.hT k.kT (k.loop hk) k.deep (k.high hk)
   exact ⟨redep t.nodes dep e.ino to,by rw [c5]; exact k.deep,.inr ⟨hk,c1,c2,c3,c4⟩⟩
 obtain ⟨dep',hd12,hcase⟩:=hcase
 refine ⟨dep',?_⟩
 cases hfr:findE dT.ents nm with
 |none =>
  have hu:underN dT.ents nm=0:=by simp [underN,hfr]
  rw [hu]
  exact h.move0 k.hF k.he k.hT k.kT hfr (hs k.hn) k.hm k.ne hd12 k.cookie hcase
 |some e2 =>
  have hu:underN dT.ents nm=e2.ino:=by simp [underN,hfr]
  rw [hu]
  obtain ⟨q1,y,q2,q3,q4,q5,q6⟩:=k.onto e2 hfr
  have h1:=h.un k.hT hfr q2 q3
  have a2:=leftN_asc h.srt.asc to nm
  have f2:=find_leftN h.srt.asc k.hT (s:=nm)
  have hy1:find (leftN t.nodes to nm) e2.ino=some y:=by rw [f2,if_neg q6]; exact q2
  have f4:∀i,find (unnamedN (leftN t.nodes to nm) e2.ino) i=if i=e2.ino then lessN y else if i=to then some { dT with ents:=dropE dT.ents nm } else find t.nodes i:=by
   intro i
   rw [find_unnamedN a2 hy1,f2]
  have hnn:nodeN (unnamedN (leftN t.nodes to nm) e2.ino) e.ino=nodeN t.nodes e.ino:=by
   simp only [nodeN]
   rw [f4,if_neg (fun hh=>q1 hh.symm),if_neg k.ne]
  have hy0:=(h.num _ _ q2).1
  have hmv:moveN t f s to nm e.ino e2.ino=moveN ⟨unnamedN (leftN t.nodes to nm) e2.ino,t.next,t.cookie⟩ f s to nm e.ino 0:=by
   unfold moveN
   simp only [hnn]
   rw [un_first h.srt.asc k.hF k.hT q2 q5 q6]
   have e1:(e2.ino != 0)=true:=by simp; omega
   simp only [e1,bne_self_eq_false,Bool.false_eq_true,↓reduceIte]
  rw [hmv]
  have hsn:to=f→s≠nm:=fun hh hsn=>by
   subst hh; subst hsn
   have:=k.hF; rw [k.hT] at this; injection this with this; subst this
   have:=k.he; rw [hfr] at this; injection this with this; subst this
   exact q1 rfl
  obtain ⟨dF',g1,g2⟩:∃dF',find (unnamedN (leftN t.nodes to nm) e2.ino) f=some dF'∧findE dF'.ents s=some e:=by
   rw [f4,if_neg (fun hh=>q5 hh.symm)]
   split
   ·rename_i hh
    refine ⟨_,rfl,?_⟩
    rw [findE_dropE_ne (hsn hh.symm)]
    subst hh
    have:=k.hF; rw [k.hT] at this; injection this with this; subst this
    exact k.he
   ·exact ⟨dF,k.hF,k.he⟩
  have back:∀i n,find (unnamedN (leftN t.nodes to nm) e2.ino) i=some n→n.kind=2→∃n0,find t.nodes i=some n0∧n0.kind=2∧n0.up=n.up∧(n0.ents=[]→n.ents=[]):=by
   intro i n hi hk
   rw [f4] at hi
   split at hi
   ·unfold lessN at hi
    split at hi
    ·cases hi
    ·rename_i hh
     injection hi with hi; subst hi
     simp only at hk
     simp [hk] at hh
   ·split at hi
    ·rename_i hh; subst hh
     injection hi with hi; subst hi
     exact ⟨dT,k.hT,hk,rfl,fun h0=>by simp [h0,dropE]⟩
    ·exact ⟨n,hi,hk,rfl,fun h0=>h0⟩
  refine h1.move0 (dep':=dep') g1 g2 (dT:={ dT with ents:=dropE dT.ents nm }) ?_ k.kT (findE_dropE _ _) (hs k.hn) (m:=m) ?_ k.ne hd12 k.cookie ?_
  ·simp only; rw [f4,if_neg (fun hh=>q6 hh.symm),if_pos rfl]
  ·simp only; rw [f4,if_neg (fun hh=>q1 hh.symm),if_neg k.ne]; exact k.hm
  ·rcases hcase with hc|⟨hk,c1,c2,c3,c4⟩
   ·exact .inl hc
   ·refine .inr ⟨hk,c1,?_,c3,?_⟩
    ·intro i n hi hk2 hi1 hie
     obtain ⟨n0,b1,b2,b3,_⟩:=back i n hi hk2
     rw [←b3]; exact c2 i n0 b1 b2 hi1 hie
    ·intro i n hi hk2
     obtain ⟨n0,b1,b2,_,b4⟩:=back i n hi hk2
     exact ⟨(c4 i n0 b1 b2).1,fun h12=>b4 ((c4 i n0 b1 b2).2 h12)⟩
end Go.Proofs.YtannopdcbocngaaGreatDoor
namespace Go.Proofs.YtannopdcbocngaaGreatDoor
open Go Go.Abs
theorem GInv.zero {t:Tree} {dep:Int→Nat} {x:Int} (h:GInv t dep x):find t.nodes 0=none:=by
 cases hz:find t.nodes 0 with
 |none=>rfl
 |some m=>have:=h.num _ _ hz; omega
theorem mvN_cases {t:Tree} {dep:Int→Nat} (h:GInv t dep 0) (f:Int) (s:Bytes) (to:Int) (nm:Bytes) :
  ((mvN t f s to nm).1=t∧(mvN t f s to nm).2.1=0∧(mvN t f s to nm).2.2≠0) ∨
  (mvN t f s to nm=(t,0,0)∧∃dF dT e e2,find t.nodes f=some dF∧dF.kind=2∧nameOk s=true∧findE dF.ents s=some e∧lookN t.nodes f s=(e.ino,0)∧find t.nodes to=some dT∧dT.kind=2∧nameOk nm=true∧findE dT.ents nm=some e2∧e2.ino=e.ino) ∨
  ∃dF dT m e,MvOk t dep f s to nm dF dT m e∧nameOk s=true∧lookN t.nodes f s=(e.ino,0)∧mvN t f s to nm=(moveN t f s to nm e.ino (underN dT.ents nm),underN dT.ents nm,0):=by
 unfold mvN
 split
 ·rename_i c1; exact .inl ⟨rfl,rfl,by simpa using c1⟩
 rename_i c1
 split
 ·rename_i c2; exact .inl ⟨rfl,rfl,by simpa using c2⟩
 rename_i c2
 split
 ·exact .inl ⟨rfl,rfl,by simp⟩
 rename_i c3
 obtain ⟨dF,e,e1,e2,e3,e4,e5⟩:=look_ok (by simpa using c1)
 obtain ⟨dT,g1,g2,g3⟩:=dir_ok (show (dirN t.nodes to).2=0 by simpa using c2)
 have hem:=(findE_mem e4).1
 obtain ⟨_,_,x1,_,m,hm,hup⟩:=h.ent _ _ e e1 hem
 have hnode:nodeN t.nodes e.ino=m:=by simp [nodeN,hm]
 simp only [e5,g3,hnode]
 split
 ·rename_i c4
  right; left
  refine ⟨rfl,dF,dT,e,?_⟩
  have c4':underN dT.ents nm=e.ino:=by simpa using c4
  cases hfr:findE dT.ents nm with
  |none=>simp only [underN,hfr] at c4'; have:=(h.num _ _ hm).1; omega
  |some e2'=>simp only [underN,hfr] at c4'; exact ⟨e2',e1,e2,e3,e4,rfl,g1,g2,by simpa using c3,rfl,c4'⟩
 rename_i c4
 split
 ·exact .inl ⟨rfl,rfl,by simp⟩
 rename_i c5
 split
 ·rename_i c6; exact .inl ⟨rfl,rfl,by simpa using c6⟩
 rename_i c6
 split
 ·exact .inl ⟨rfl,rfl,by simp⟩
 rename_i c7
 right; right
 have hdt:=h.depthN_eq g1 g2
 simp only [manyN,hdt,Bool.or_eq_true,Bool.and_eq_true,beq_iff_eq,decide_eq_true_eq,not_or,not_and,bne_iff_ne] at c7
 obtain ⟨r1,r2,r3,r4⟩:=c7
 have hw:w64 (((dep to:Nat):Int)+1)=((dep to+1:Nat):Int):=by
  have:=(h.deep _ _ g1 g2).1
  rw [show (((dep to:Nat):Int)+1)=((dep to+1:Nat):Int) by omega]
  exact wrapS (by omega) (by omega)
 rw [hw] at r3
 have hnf:=h.ent_ne e1 hem
 have hne:e.ino≠to:=fun hh=>by
  rw [hh,g1] at hm; injection hm with hm; subst hm
  simp only [g2,beq_self_eq_true,Bool.true_and] at c5
  rw [hh,GInv.below_self] at c5
  exact c5 rfl
 refine ⟨dF,dT,m,e,⟨e1,e2,e4,g1,g2,by simpa using c3,hm,hne,hnf,?_,by omega,?_,by omega,?_,?_⟩,e3,rfl,rfl⟩
 ·intro hk
  simpa [hk] using c5
 ·intro hk
  have:=r3 hk; omega
 ·intro hfr hne
  have hu:underN dT.ents nm=0:=by simp [underN,hfr]
  have:=r1 ⟨hu,hne⟩
  omega
 ·intro e2' hfr
  have hu:underN dT.ents nm=e2'.ino:=by simp [underN,hfr]
  rw [hu] at c4 c6
  obtain ⟨_,_,_,_,y,hy,_⟩:=h.ent _ _ e2' g1 (findE_mem hfr).1
  have hny:nodeN t.nodes e2'.ino=y:=by simp [nodeN,hy]
  have hto:=h.ent_ne g1 (findE_mem hfr).1
  simp only [clashN,hy,Option.isSome_some,Bool.not_true,Bool.false_eq_true,↓reduceIte,hny,bne_iff_ne,ne_eq,Decidable.not_not] at c6
  split at c6
  ·cases c6
  ·rename_i k1
   split at c6
   ·cases c6
   ·rename_i k2
    split at c6
    ·cases c6
    ·rename_i k3
     have hy0:y.ents=[]:=List.length_eq_zero_iff.1 (by simpa using k3)
     refine ⟨by simpa using c4,y,hy,hy0,?_,?_,hto⟩
     ·simp at k1 k2
      constructor
      ·exact k1
      ·intro hy2
       rcases h.kind _ _ hm with hk|hk
       ·exact absurd hy2 (k2 (by omega))
       ·exact hk
     ·intro hh
      rw [hh,e1] at hy; injection hy with hy; subst hy
      rw [hy0] at hem; cases hem
theorem mvN_inv {t:Tree} {dep:Int→Nat} (h:GInv t dep 0) (f:Int) (s:Bytes) (to:Int) (nm:Bytes) (hs:nameOk nm=true→Nm nm):∃dep',GInv (mvN t f s to nm).1 dep' 0:=by
 rcases mvN_cases h f s to nm with ⟨h1,_⟩|⟨h1,_⟩|⟨dF,dT,m,e,k,_,_,hk⟩
 ·rw [h1]; exact ⟨dep,h⟩
 ·rw [h1]; exact ⟨dep,h⟩
 ·rw [hk]; exact h.mv hs k
theorem doneN_inv {t:Tree} {dep:Int→Nat} (h:GInv t dep 0) (s:Step):∃dep',GInv (doneN t s).1 dep' 0:=by
 unfold doneN
 split
 ·exact addN_inv h _ _ _ (nameOf_nm _)
 split
 ·exact ⟨dep,lnN_inv h _ _ _ (nameOf_nm _)⟩
 split
 ·exact ⟨dep,unN_inv h _ _⟩
 split
 ·exact mvN_inv h _ _ _ _ (nameOf_nm _)
 split
 ·exact ⟨dep,putN_inv h _ _⟩
 ·exact ⟨dep,freeN_inv h _⟩
theorem newN_inv:GInv newN (fun _=>0) 0:=by
 have hf:∀i n,find newN.nodes i=some n→i=1∧n=⟨1,2,0,[],[],1⟩:=by
  intro i n hi
  obtain ⟨h1,h2⟩:=find_mem hi
  simp [newN] at h1
  subst h1
  exact ⟨h2.symm,rfl⟩
 refine ⟨⟨?_,?_⟩,⟨_,rfl,rfl,rfl⟩,?_,?_,?_,?_,?_,?_,?_,?_,rfl,?_,?_,by simp [newN],by simp [newN],by simp [newN]⟩
 ·simp [newN,Asc]
 ·intro n hn; simp [newN] at hn; subst hn; exact List.Pairwise.nil
 ·intro i n hi; obtain ⟨rfl,rfl⟩:=hf i n hi; simp [newN]
 ·intro i n hi; obtain ⟨rfl,rfl⟩:=hf i n hi; simp
 ·intro i n hi; obtain ⟨rfl,rfl⟩:=hf i n hi; simp
 ·intro i n hi; obtain ⟨rfl,rfl⟩:=hf i n hi; simp
 ·intro i n e hi he; obtain ⟨rfl,rfl⟩:=hf i n hi; cases he
 ·intro i n hi; obtain ⟨rfl,rfl⟩:=hf i n hi; exact List.Pairwise.nil
 ·intro i n hi; obtain ⟨rfl,rfl⟩:=hf i n hi; simp [newN,cnt,cntE]
 ·intro i n hi _ h1; exact absurd (hf i n hi).1 h1
 ·intro i n hi _ h1; exact absurd (hf i n hi).1 h1
 ·intro i n hi; obtain ⟨rfl,rfl⟩:=hf i n hi; simp
theorem madeN_inv (l:List Step):∃dep,GInv (madeN l) dep 0:=by
 have key:∀(l:List Step) (t:Tree),(∃dep,GInv t dep 0)→∃dep,GInv (l.foldl (fun t s=>(doneN t s).1) t) dep 0:=by
  intro l
  induction l with
  |nil=>intro t h; exact h
  |cons s l ih =>
   rintro t ⟨dep,h⟩
   exact ih _ (doneN_inv h s)
 exact key l _ ⟨_,newN_inv⟩
end Go.Proofs.YtannopdcbocngaaGreatDoor
namespace Go.Proofs.YtannopdcbocngaaGreatDoor
open Go Go.Abs
attribute [local irreducible] exK opsK opK gK forkK kr acall callOp owhen obind
theorem great_ok {l:List Step} (h:greatN l=false) (ho:∀s,s∈l→s.kind<256∧s.a<256∧s.b<256∧s.n<256∧s.m<256):l.length≤60∧∀s,s∈l→s.Ok:=by
 simp only [greatN,Bool.or_eq_false_iff,decide_eq_false_iff_not] at h
 refine ⟨by omega,fun s hs=>?_⟩
 obtain ⟨h1,h2,h3,h4,h5⟩:=ho s hs
 have:=List.any_eq_false.1 h.2 s hs
 simp only [decide_eq_true_eq] at this
 exact ⟨h1,h2,h3,h4,h5,by omega⟩
end Go.Proofs.YtannopdcbocngaaGreatDoor
namespace Go.Proofs.YtannopdcbocngaaGreatDoor
open Go Go.Abs
def wLinks:Bytes:=[108,105,110,107,115]
def wDir:Bytes:=[32,100,105,114,32]
def wFile:Bytes:=[32,102,105,108,101,32]
def dirLine (p:Bytes) (ino:Int):Bytes:=escN p++wDir++Lib.itoa ino++[10]
def fileLine (pre:Bytes) (n:Node):Bytes:=pre++wFile++Lib.itoa n.ino++fldN ⟨wLinks,n.links,[]⟩++fldN ⟨wData,0,escN n.data⟩++[10]
def entT (ns:List Node) (rec:Int→Bytes→Bytes) (path:Bytes) (e:Ent):Bytes :=
 let n:=nodeN ns e.ino
 let p:=path++[47]++e.name
 if n.kind=2 then dirLine p n.ino++rec n.ino p else fileLine (escN p) n
def belowT (ns:List Node):Nat→Int→Bytes→Bytes
 |0,_,_=>[]
 |f+1,i,path=>(nodeN ns i).ents.flatMap (entT ns (belowT ns f) path)
def orphT (n:Node):Bytes:=if n.kind=1∧n.links=0 then fileLine [45] n else []
def treeT (ns:List Node) (f:Nat):Bytes:=[47,32,100,105,114,32,49,10]++belowT ns f 1 []++ns.flatMap orphT
def FinB (ns:List Node):Nat→Int→Prop
 |0,i=>(nodeN ns i).ents=[]
 |f+1,i=>(nodeN ns i).ents.length≤5∧∀e,e∈(nodeN ns i).ents→e.name.length≤50∧((nodeN ns e.ino).kind=2→FinB ns f (nodeN ns e.ino).ino)
structure NdOk (n:Node):Prop where
 ino:okI n.ino
 links:okI n.links
 data:n.data.length≤5000
theorem dirLine_le {p:Bytes} {i:Int} (h:okI i):(dirLine p i).length≤3*p.length+30:=by
 have h1:=escN_le p
 have h2:=itoa_le h
 unfold dirLine wDir
 simp; omega
theorem fileLine_le {pre:Bytes} {n:Node} (h:NdOk n):(fileLine pre n).length≤pre.length+15200:=by
 have h1:=itoa_le h.ino
 have h2:=fldN_le' (f:=⟨wLinks,n.links,[]⟩) h.links
 have h3:=fldN_le' (f:=⟨wData,0,escN n.data⟩) okI_zero
 have h4:=escN_le n.data
 have h5:=h.data
 simp only [wLinks,wData,List.length_cons,List.length_nil] at h2 h3
 unfold fileLine wFile
 simp only [wLinks,wData,List.length_append,List.length_cons,List.length_nil]
 omega
def bB:Nat→Nat
 |0=>0
 |f+1=>5*(20000+bB f)
theorem flat_le {α:Type} (g:α→Bytes) (b:Nat):∀l:List α,(∀x,x∈l→(g x).length≤b)→(l.flatMap g).length≤b*l.length
 | [],_=>by simp
 |x::r,h=>by
  have h1:=h x (by simp)
  have h2:=flat_le g b r (fun y hy=>h y (by simp [hy]))
  simp only [List.flatMap_cons,List.length_append,List.length_cons,Nat.mul_add,Nat.mul_one]
  omega
theorem entT_le {ns:List Node} (hn:∀i,NdOk (nodeN ns i)) {f:Nat} {path:Bytes} {e:Ent} (hp:path.length+51≤1500) (hen:e.name.length≤50) (hr:(nodeN ns e.ino).kind=2→(belowT ns f (nodeN ns e.ino).ino (path++[47]++e.name)).length≤bB f):(entT ns (belowT ns f) path e).length≤20000+bB f:=by
 unfold entT
 simp only
 have hl:(path++[47]++e.name).length≤1500:=by simp; omega
 split
 ·rename_i hk
  have h1:=dirLine_le (p:=path++[47]++e.name) (hn e.ino).ino
  have h2:=hr hk
  rw [List.length_append]
  omega
 ·have h1:=fileLine_le (pre:=escN (path++[47]++e.name)) (hn e.ino)
  have h2:=escN_le (path++[47]++e.name)
  omega
theorem belowT_le {ns:List Node} (hn:∀i,NdOk (nodeN ns i)):∀(f:Nat) (i:Int) (path:Bytes),FinB ns f i→path.length+51*f≤1500→(belowT ns f i path).length≤bB f
 |0,i,path,_,_=>by simp [belowT,bB]
 |f+1,i,path,h,hp=>by
  rw [belowT,bB]
  have h1:=flat_le (entT ns (belowT ns f) path) (20000+bB f) (nodeN ns i).ents (fun e he=>entT_le hn (by omega) (h.2 e he).1 (fun hk=>belowT_le hn f _ _ ((h.2 e he).2 hk) (by have:=(h.2 e he).1; simp; omega)))
  have h2:=h.1
  have h3:(20000+bB f)*(nodeN ns i).ents.length≤(20000+bB f)*5:=Nat.mul_le_mul (Nat.le_refl _) h2
  omega
theorem bB_mono:∀ {f g:Nat},f≤g→bB f≤bB g
 |0,g,_=>Nat.zero_le _
 |f+1,0,h=>by omega
 |f+1,g+1,h=>by
  have:=bB_mono (f:=f) (g:=g) (by omega)
  simp only [bB]; omega
theorem bB12:bB 12=6103515600000:=by decide
theorem nodeN_some {ns:List Node} {i:Int} {n:Node} (h:find ns i=some n):nodeN ns i=n:=by simp [nodeN,h]
theorem nodeN_none {ns:List Node} {i:Int} (h:find ns i=none):nodeN ns i=Node.zero:=by simp [nodeN,h]
theorem find_of_mem:∀ {ns:List Node},Asc ns→∀ {n:Node},n∈ns→find ns n.ino=some n
 | [],_,n,h=>by cases h
 |m::r,ha,n,h=>by
  have h1:=List.pairwise_cons.1 ha
  rcases List.mem_cons.1 h with rfl|h
  ·simp [find]
  ·have hlt:=h1.1 n h
   have ih:=find_of_mem h1.2 h
   unfold find at ih ⊢
   rw [List.find?_cons_of_neg (by simp; omega)]
   exact ih
theorem GInv.nd {t:Tree} {dep:Int→Nat} (h:GInv t dep 0) (i:Int):NdOk (nodeN t.nodes i):=by
 cases hf:find t.nodes i with
 |none=>rw [nodeN_none hf]; exact ⟨okI_zero,okI_zero,by simp [Node.zero]⟩
 |some n =>
  rw [nodeN_some hf]
  have h1:=h.num i n hf
  have h2:=h.ino hf
  have h3:=h.links i n hf
  have h4:=cnt_le i t.nodes (fun m hm=>nm_len (h.srt.ents m hm) (fun e he=>(h.ent _ _ e (find_of_mem h.srt.asc hm) he).2.2.2.1))
  have h5:=h.nodes
  have h6:=h.next
  refine ⟨by unfold okI; omega,?_,?_⟩
  ·unfold okI
   rw [h3]
   split<;>omega
  ·rcases h.kind i n hf with hk|hk
   ·have:=(h.file i n hf hk).2.2; omega
   ·rw [h.dir i n hf hk]; simp
theorem GInv.fin {t:Tree} {dep:Int→Nat} (h:GInv t dep 0):∀(f:Nat) (i:Int) (n:Node),find t.nodes i=some n→n.kind=2→dep i+f=12→FinB t.nodes f i
 |0,i,n,hf,hk,hd=>by
  show (nodeN t.nodes i).ents=[]
  rw [nodeN_some hf]
  exact (h.deep i n hf hk).2 (by omega)
 |f+1,i,n,hf,hk,hd=>by
  have h1:=h.few hf
  refine ⟨by rw [nodeN_some hf]; exact h1,fun e he=>?_⟩
  rw [nodeN_some hf] at he
  obtain ⟨_,_,he1,hnm,m,hm,hup⟩:=h.ent i n e hf he
  refine ⟨by rcases hnm with h|h|h|h|h<;>rw [h]<;>decide,fun hk2=>?_⟩
  rw [nodeN_some hm] at hk2 ⊢
  have hi:=h.ino hm
  rw [hi]
  have hd2:=(h.deps e.ino m hm hk2 he1).1
  rw [hup hk2] at hd2
  exact GInv.fin h f e.ino m hm hk2 (by omega)
end Go.Proofs.YtannopdcbocngaaGreatDoor
namespace Go.Proofs.YtannopdcbocngaaGreatDoor
open Go Go.Abs
attribute [local irreducible] exK opsK opK gK forkK kr acall callOp owhen obind
theorem loop92 (t:Tree) (ino:Int) (c4:List AVal) (hc4:∀B M,c4.map (AVal.back1 B M)=c4) (h6:c4.length=6) (hl:t.nodes.length≤100000) (C:CallF) (hC:C=acall tabT):∀(r pre:List Node),t.nodes=pre++r →
  exK C [.cellA 4 6] 0 [.block 0,.seq q92_3] (.loop [1,2,4,5] lb92_0) [(1,eI ino),(2,.ptr 0 0),(4,.ptr 1 0),(5,eI pre.length)] [.cells (eTreeC t),.cells c4] =
  some (eNode ((find r ino).getD Node.zero),[])
 | [],pre,he=>by
  subst hC
  have hpre:pre=t.nodes:=by simpa using he.symm
  have hlt:decide ((pre.length:Int)<t.nodes.length)=false:=by rw [hpre]; simp
  obtain ⟨x0,x1,x2,x3,x4,x5,rfl⟩:∃a b c d e f,c4=[a,b,c,d,e,f]:=by
   match c4,h6 with
   | [a,b,c,d,e,f],_=>exact ⟨a,b,c,d,e,f,rfl⟩
  rw [exK_loop]
  simp only [E92,eTreeC,List.length_map,hlt,EVN,EVT,EVD,↓reduceIte,Nat.reduceEqDiff,reduceCtorEq,Nat.reduceAdd,Nat.reduceLeDiff,ne_eq,Nat.reduceLT,Int.reduceLT,Int.reduceLE,Int.reduceNeg]
  rfl
 |x::r,pre,he=>by
  subst hC
  have hl':pre.length<t.nodes.length:=by rw [he]; simp
  have hlt:decide ((pre.length:Int)<t.nodes.length)=true:=by simpa using hl'
  have hix:t.nodes[pre.length]?=some x:=by rw [he]; simp
  have hn:(0:Int)≤pre.length:=by omega
  have hwr:IntKind.i64.wrap ((pre.length:Int)+1)=((pre.length+1:Nat):Int):=by rw [wrapS (by omega) (by omega)]; simp
  by_cases hx:x.ino=ino
  ·have hb:(x.ino==ino)=true:=by simpa using hx
   have hf:(find (x::r) ino).getD Node.zero=x:=by simp [find,hx]
   rw [hf]
   obtain ⟨x0,x1,x2,x3,x4,x5,rfl⟩:∃a b c d e f,c4=[a,b,c,d,e,f]:=by
    match c4,h6 with
    | [a,b,c,d,e,f],_=>exact ⟨a,b,c,d,e,f,rfl⟩
   rw [exK_loop]
   simp only [E92,eTreeC,eNodeC,List.length_map,hlt,hix,hn,hb,EVN,EVT,EVD,↓reduceIte,Nat.reduceEqDiff,reduceCtorEq,Nat.reduceAdd,Nat.reduceLeDiff,ne_eq,Nat.reduceLT,Int.reduceLT,Int.reduceLE,Int.reduceNeg]
   rfl
  ·have hb:(x.ino==ino)=false:=by simpa using hx
   have hf:find (x::r) ino=find r ino:=by simp [find,hx]
   have ih:=loop92 t ino c4 hc4 h6 hl (acall tabT) rfl r (pre++[x]) (by simpa using he)
   simp only [List.length_append,List.length_cons,List.length_nil,Nat.zero_add,eTreeC] at ih
   rw [hf]
   rw [exK_loop]
   simp only [E92,eTreeC,eNodeC,List.length_map,hlt,hix,hn,hb,EVN,EVT,EVD,↓reduceIte,Nat.reduceEqDiff,reduceCtorEq,Nat.reduceAdd,Nat.reduceLeDiff,ne_eq,Nat.reduceLT,Int.reduceLT,Int.reduceLE,Int.reduceNeg]
   simp only [E92,hwr,hc4,EVN,EVT,EVD,↓reduceIte,Nat.reduceEqDiff,reduceCtorEq,Nat.reduceAdd,Nat.reduceLeDiff,ne_eq,Nat.reduceLT,Int.reduceLT,Int.reduceLE,Int.reduceNeg]
   exact ih
theorem c92 (t:Tree) (ino:Int) (hl:t.nodes.length≤100000):acall tabT 92 [eTree t,eI ino] []=some (eNode (nodeN t.nodes ino),[]):=by
 refine acall_ex rfl rfl rfl ?_
 have h0:=loop92 t ino [.int .i64 0,.int .i64 0,.int .i64 0,.slice .c0 [],.slice .c0 [],.int .i64 0] (fun _ _=>rfl) rfl hl (acall tabT) rfl t.nodes [] rfl
 simp only [List.length_nil,eTreeC] at h0
 simp only [fn92,E92,eTree,eTreeC,EVN,EVT,EVD,↓reduceIte,Nat.reduceEqDiff,reduceCtorEq,Nat.reduceAdd,Nat.reduceLeDiff,ne_eq,Nat.reduceLT,Int.reduceLT,Int.reduceLE,Int.reduceNeg]
 exact h0
theorem k92 (nodes:List Node) (next cookie ino:Int) (hl:nodes.length≤100000) (M:AMem):callOp (acall tabT) 92 [.agg [eNodes nodes,.int .i64 next,.int .i64 cookie],eI ino] M=some (eNode (nodeN nodes ino),M) :=
 callOp0 (c92 ⟨nodes,next,cookie⟩ ino hl) rfl rfl rfl rfl rfl M
end Go.Proofs.YtannopdcbocngaaGreatDoor
namespace Go.Proofs.YtannopdcbocngaaGreatDoor
open Go Go.Abs
attribute [local irreducible] exK opsK opK gK forkK kr acall callOp owhen obind
theorem loop54 (t:Tree) (hl:t.nodes.length≤100000) (hn:∀i,NdOk (nodeN t.nodes i)) (d:Node) (path:Bytes) (f:Nat) (hp:path.length+51≤1500) (hde:d.ents.length≤5) (hf:bB f≤100000000000000)
  (hent:∀e,e∈d.ents→e.name.length≤50∧((nodeN t.nodes e.ino).kind=2→(belowT t.nodes f (nodeN t.nodes e.ino).ino (path++[47]++e.name)).length≤bB f∧∀M,callOp (acall tabT) 54 [eTree t,eI (nodeN t.nodes e.ino).ino,.str (path++[47]++e.name)] M=some (.str (belowT t.nodes f (nodeN t.nodes e.ino).ino (path++[47]++e.name)),M)))
  (C:CallF) (hC:C=acall tabT):∀(r pre:List Ent),d.ents=pre++r→∀(s:Bytes),s.length+(20000+bB f)*r.length≤1000000000000000→∀(fn:List ARes) (base:Nat) (k:List K),
  exK C fn base (.block 0::k) (.loop [2,3,7,8,9] lb54_0) [(2,.str path),(3,.ptr 0 0),(7,.str s),(8,.ptr 1 0),(9,eI pre.length)] [.cells (eTreeC t),.cells (eNodeC d)] =
  kr C fn base k ⟨.normal,[(2,.str path),(3,.ptr 0 0),(7,.str (s++r.flatMap (entT t.nodes (belowT t.nodes f) path))),(8,.ptr 1 0),(9,eI d.ents.length),(19,.bool false)],[.cells (eTreeC t),.cells (eNodeC d)]⟩
 | [],pre,he,s,hs,fn,base,k=>by
  subst hC
  have hpre:pre=d.ents:=by simpa using he.symm
  have hlt:decide ((pre.length:Int)<d.ents.length)=false:=by rw [hpre]; simp
  have hq:(eI pre.length)=eI d.ents.length:=by rw [hpre]
  have hlt':decide ((d.ents.length:Int)<d.ents.length)=false:=by simp
  rw [exK_loop]
  simp only [E54,eTreeC,eNodeC,List.length_map,hlt,hlt',hq,List.flatMap_nil,List.append_nil,EVN,EVT,EVD,↓reduceIte,Nat.reduceEqDiff,reduceCtorEq,Nat.reduceAdd,Nat.reduceLeDiff,ne_eq,Nat.reduceLT,Int.reduceLT,Int.reduceLE,Int.reduceNeg]
 |e::r,pre,he,s,hs,fn,base,k=>by
  subst hC
  have hl':pre.length<d.ents.length:=by rw [he]; simp
  have hlt:decide ((pre.length:Int)<d.ents.length)=true:=by simpa using hl'
  have hix:d.ents[pre.length]?=some e:=by rw [he]; simp
  have hi0:(0:Int)≤pre.length:=by omega
  have hwr:IntKind.i64.wrap ((pre.length:Int)+1)=((pre.length+1:Nat):Int):=by rw [wrapS (by omega) (by omega)]; simp
  obtain ⟨he1,he2⟩:=hent e (by rw [he]; simp)
  have hnd:=hn e.ino
  have h92:=k92 t.nodes t.next t.cookie e.ino hl
  rw [List.length_cons,Nat.mul_add,Nat.mul_one] at hs
  have hle:=entT_le (f:=f) (path:=path) (e:=e) hn hp he1 (fun hk=>(he2 hk).1)
  have ih:=loop54 t hl hn d path f hp hde hf hent (acall tabT) rfl r (pre++[e]) (by simpa using he) (s++entT t.nodes (belowT t.nodes f) path e) (by simp; omega) fn base k
  have hfr:s++entT t.nodes (belowT t.nodes f) path e++r.flatMap (entT t.nodes (belowT t.nodes f) path)=s++(e::r).flatMap (entT t.nodes (belowT t.nodes f) path):=by simp
  rw [hfr] at ih
  generalize s++(e::r).flatMap (entT t.nodes (belowT t.nodes f) path)=u at ih ⊢
  have x1:=max_lt (path.length+1) (by omega)
  have x2:=max_lt (path.length+1+e.name.length) (by omega)
  have hpl:(path++[47]++e.name).length≤1500:=by simp; omega
  obtain ⟨p,hpp⟩:∃p,path++[47]++e.name=p:=⟨_,rfl⟩
  have hee:entT t.nodes (belowT t.nodes f) path e=if (nodeN t.nodes e.ino).kind=2 then dirLine p (nodeN t.nodes e.ino).ino++belowT t.nodes f (nodeN t.nodes e.ino).ino p else fileLine (escN p) (nodeN t.nodes e.ino):=by unfold entT; simp only [hpp]
  rw [hpp] at he2 hpl
  rw [hee] at ih hle
  obtain ⟨n,hnn⟩:∃n,nodeN t.nodes e.ino=n:=⟨_,rfl⟩
  rw [hnn] at he2 hnd h92 ih hle
  have h49:=fun M=>kT (k49 p (by omega) M)
  have h37:=fun M=>kT (k37 n.ino hnd.ino M)
  have hel:=escN_le p
  have hil:=itoa_le hnd.ino
  simp only [List.length_append,List.length_cons,List.length_nil,Nat.zero_add,eTreeC,eNodeC] at ih
  rw [exK_loop]
  simp only [E54,eTreeC,eNode,eNodeC,eEnt,eEntC,List.length_map,hlt,hix,hi0,h92,x1,x2,hpp,EVN,EVT,EVD,↓reduceIte,Nat.reduceEqDiff,reduceCtorEq,Nat.reduceAdd,Nat.reduceLeDiff,ne_eq,Nat.reduceLT,Int.reduceLT,Int.reduceLE,Int.reduceNeg]
  by_cases hk:n.kind=2
  ·have hb:(n.kind==2)=true:=by simpa using hk
   obtain ⟨hb1,hb2⟩:=he2 hk
   rw [if_pos hk] at ih
   simp only [eTree,eTreeC] at hb2
   generalize belowT t.nodes f n.ino p=B at *
   have a1:=max_lt (s.length+(escN p).length) (by omega)
   have a2:=max_lt (s.length+(escN p).length+5) (by omega)
   have a3:=max_lt (s.length+(escN p).length+5+(Lib.itoa n.ino).length) (by omega)
   have a4:=max_lt (s.length+(escN p).length+5+(Lib.itoa n.ino).length+1) (by omega)
   have a5:=max_lt (s.length+(escN p).length+5+(Lib.itoa n.ino).length+1+B.length) (by omega)
   have hcat:s++(dirLine p n.ino++B)=s++escN p++[32,100,105,114,32]++Lib.itoa n.ino++[10]++B:=by simp [dirLine,wDir]
   rw [hcat] at ih
   simp only [E54,hb,h49,h37,a1,a2,a3,a4,a5,hb2,EVN,EVT,EVD,↓reduceIte,Nat.reduceEqDiff,reduceCtorEq,Nat.reduceAdd,Nat.reduceLeDiff,ne_eq,Nat.reduceLT,Int.reduceLT,Int.reduceLE,Int.reduceNeg]
   simp only [E54,hwr,EVN,EVT,EVD,↓reduceIte,Nat.reduceEqDiff,reduceCtorEq,Nat.reduceAdd,Nat.reduceLeDiff,ne_eq,Nat.reduceLT,Int.reduceLT,Int.reduceLE,Int.reduceNeg]
   exact ih
  ·have hb:(n.kind==2)=false:=by simpa using hk
   rw [if_neg hk] at ih
   have hdl:=hnd.data
   obtain ⟨t1,l1,e1,g1⟩:=k46' (w:=wLinks) (by decide) hnd.links
   obtain ⟨t2,l2,e2,g2⟩:=k47' (w:=wData) (s:=n.data) (by decide) (by omega)
   have g1':=fun M=>kT (g1 M)
   have g2':=fun M=>kT (g2 M)
   simp only [wLinks,wData] at g1' g2'
   have a1:=max_lt (s.length+(escN p).length) (by omega)
   have a2:=max_lt (s.length+(escN p).length+6) (by omega)
   have a3:=max_lt (s.length+(escN p).length+6+(Lib.itoa n.ino).length) (by omega)
   have a4:=max_lt (s.length+(escN p).length+6+(Lib.itoa n.ino).length+t1.length) (by omega)
   have a5:=max_lt (s.length+(escN p).length+6+(Lib.itoa n.ino).length+t1.length+t2.length) (by omega)
   have a6:=max_lt (s.length+(escN p).length+6+(Lib.itoa n.ino).length+t1.length+t2.length+1) (by omega)
   have hcat:s++fileLine (escN p) n=s++escN p++[32,102,105,108,101,32]++Lib.itoa n.ino++t1++t2++[10]:=by simp [fileLine,wFile,e1,e2]
   rw [hcat] at ih
   simp only [E54,hb,h49,h37,g1',g2',a1,a2,a3,a4,a5,a6,bytes_u8,EVN,EVT,EVD,↓reduceIte,Nat.reduceEqDiff,reduceCtorEq,Nat.reduceAdd,Nat.reduceLeDiff,ne_eq,Nat.reduceLT,Int.reduceLT,Int.reduceLE,Int.reduceNeg]
   simp only [E54,hwr,EVN,EVT,EVD,↓reduceIte,Nat.reduceEqDiff,reduceCtorEq,Nat.reduceAdd,Nat.reduceLeDiff,ne_eq,Nat.reduceLT,Int.reduceLT,Int.reduceLE,Int.reduceNeg]
   exact ih
theorem c54 (t:Tree) (hl:t.nodes.length≤100000) (hn:∀i,NdOk (nodeN t.nodes i)):∀(f:Nat) (i:Int) (path:Bytes),f≤12→FinB t.nodes f i→path.length+51*f≤1400→acall tabT 54 [eTree t,eI i,.str path] []=some (.str (belowT t.nodes f i path),[])
 |f,i,path,hf12,hfin,hp=>by
  refine acall_ex rfl rfl rfl ?_
  have h92:=k92 t.nodes t.next t.cookie i hl
  obtain ⟨d,hd⟩:∃d,nodeN t.nodes i=d:=⟨_,rfl⟩
  rw [hd] at h92
  have hres:∃g,g≤12∧d.ents.length≤5∧belowT t.nodes f i path=d.ents.flatMap (entT t.nodes (belowT t.nodes g) path)∧(∀e,e∈d.ents→e.name.length≤50∧((nodeN t.nodes e.ino).kind=2→(belowT t.nodes g (nodeN t.nodes e.ino).ino (path++[47]++e.name)).length≤bB g∧∀M,callOp (acall tabT) 54 [eTree t,eI (nodeN t.nodes e.ino).ino,.str (path++[47]++e.name)] M=some (.str (belowT t.nodes g (nodeN t.nodes e.ino).ino (path++[47]++e.name)),M))):=by
   match f,hf12,hfin,hp with
   |0,_,hfin,hp =>
    have h0:d.ents=[]:=by rw [←hd]; exact hfin
    exact ⟨0,by omega,by rw [h0]; simp,by rw [h0]; rfl,by rw [h0]; intro e he; cases he⟩
   |g+1,hf12,hfin,hp =>
    rw [←hd]
    refine ⟨g,by omega,hfin.1,rfl,fun e he=>⟨(hfin.2 e he).1,fun hk=>?_⟩⟩
    have h1:=(hfin.2 e he).1
    have h2:=(hfin.2 e he).2 hk
    refine ⟨belowT_le hn g _ _ h2 (by simp; omega),fun M=>callOp0 (c54 t hl hn g _ _ (by omega) h2 (by simp; omega)) rfl rfl rfl rfl rfl M⟩
  obtain ⟨g,hg,h5,hb,hent⟩:=hres
  have hbg:=bB_mono hg
  rw [bB12] at hbg
  have hm:(20000+bB g)*d.ents.length≤(20000+bB g)*5:=Nat.mul_le_mul (Nat.le_refl _) h5
  have h0:=fun fn base k=>loop54 t hl hn d path g (by omega) h5 (by omega) hent (acall tabT) rfl d.ents [] rfl [] (by simp only [List.length_nil]; omega) fn base k
  simp only [List.length_nil,List.nil_append,eTreeC,eNodeC] at h0
  rw [←hb] at h0
  simp only [fn54,E54,eTree,eTreeC,h92,eNode,eNodeC,EVN,EVT,EVD,↓reduceIte,Nat.reduceEqDiff,reduceCtorEq,Nat.reduceAdd,Nat.reduceLeDiff,ne_eq,Nat.reduceLT,Int.reduceLT,Int.reduceLE,Int.reduceNeg]
  refine (h0 _ _ _).trans ?_
  simp only [E54,EVN,EVT,EVD,↓reduceIte,Nat.reduceEqDiff,reduceCtorEq,Nat.reduceAdd,Nat.reduceLeDiff,ne_eq,Nat.reduceLT,Int.reduceLT,Int.reduceLE,Int.reduceNeg]
theorem orph_line {n:Node} (h:n.kind=1∧n.links=0):orphT n=[45,32,102,105,108,101,32]++Lib.itoa n.ino++fldN ⟨wData,0,escN n.data⟩++[10]:=by
 unfold orphT fileLine
 rw [if_pos h,h.2]
 simp [wFile,fldN]
theorem loop23 (t:Tree) (hl:t.nodes.length≤100000) (hnn:∀x,x∈t.nodes→NdOk x) (C:CallF) (hC:C=acall tabT):∀(r pre:List Node),t.nodes=pre++r→∀(s:Bytes),s.length+20000*r.length≤1000000000000000→∀(fn:List ARes) (base:Nat) (k:List K),
  exK C fn base (.block 0::k) (.loop [1,3,4] lb23_0) [(1,.ptr 0 0),(3,.str s),(4,eI pre.length)] [.cells (eTreeC t)] =
  kr C fn base k ⟨.normal,[(1,.ptr 0 0),(3,.str (s++r.flatMap orphT)),(4,eI t.nodes.length),(13,.bool false)],[.cells (eTreeC t)]⟩
 | [],pre,he,s,hs,fn,base,k=>by
  subst hC
  have hpre:pre=t.nodes:=by simpa using he.symm
  have hlt':decide ((t.nodes.length:Int)<t.nodes.length)=false:=by simp
  have hq:(eI pre.length)=eI t.nodes.length:=by rw [hpre]
  rw [exK_loop]
  simp only [E23,eTreeC,List.length_map,hlt',hq,List.flatMap_nil,List.append_nil,EVN,EVT,EVD,↓reduceIte,Nat.reduceEqDiff,reduceCtorEq,Nat.reduceAdd,Nat.reduceLeDiff,ne_eq,Nat.reduceLT,Int.reduceLT,Int.reduceLE,Int.reduceNeg]
 |n::r,pre,he,s,hs,fn,base,k=>by
  subst hC
  have hl':pre.length<t.nodes.length:=by rw [he]; simp
  have hlt:decide ((pre.length:Int)<t.nodes.length)=true:=by simpa using hl'
  have hix:t.nodes[pre.length]?=some n:=by rw [he]; simp
  have hi0:(0:Int)≤pre.length:=by omega
  have hwr:IntKind.i64.wrap ((pre.length:Int)+1)=((pre.length+1:Nat):Int):=by rw [wrapS (by omega) (by omega)]; simp
  have hnd:=hnn n (by rw [he]; simp)
  rw [List.length_cons] at hs
  have h37:=fun M=>kT (k37 n.ino hnd.ino M)
  have hil:=itoa_le hnd.ino
  have hdl:=hnd.data
  obtain ⟨t2,l2,e2,g2⟩:=k47' (w:=wData) (s:=n.data) (by decide) (by omega)
  have g2':=fun M=>kT (g2 M)
  simp only [wData] at g2'
  have l3:t2.length≤15100:=by
   rw [←e2]
   have:=fldN_le' (f:=⟨wData,0,escN n.data⟩) okI_zero
   have:=escN_le n.data
   simp only [wData,List.length_cons,List.length_nil] at *
   omega
  have hfr:(n::r).flatMap orphT=orphT n++r.flatMap orphT:=by simp
  rw [hfr]
  by_cases h:n.kind=1∧n.links=0
  ·have hb1:(n.kind==1)=true:=by simpa using h.1
   have hb2:(n.links==0)=true:=by simpa using h.2
   have ho:=orph_line h
   rw [e2] at ho
   have ih:=loop23 t hl hnn (acall tabT) rfl r (pre++[n]) (by simpa using he) (s++[45,32,102,105,108,101,32]++Lib.itoa n.ino++t2++[10]) (by simp; omega) fn base k
   have hcat:s++[45,32,102,105,108,101,32]++Lib.itoa n.ino++t2++[10]++r.flatMap orphT=s++(orphT n++r.flatMap orphT):=by rw [ho]; simp
   rw [hcat] at ih
   generalize s++(orphT n++r.flatMap orphT)=u at ih ⊢
   simp only [List.length_append,List.length_cons,List.length_nil,Nat.zero_add,eTreeC] at ih
   have a1:=max_lt (s.length+7) (by omega)
   have a2:=max_lt (s.length+7+(Lib.itoa n.ino).length) (by omega)
   have a3:=max_lt (s.length+7+(Lib.itoa n.ino).length+t2.length) (by omega)
   have a4:=max_lt (s.length+7+(Lib.itoa n.ino).length+t2.length+1) (by omega)
   rw [exK_loop]
   simp only [E23,eTreeC,eNode,eNodeC,List.length_map,hlt,hix,hi0,hb1,hb2,EVN,EVT,EVD,↓reduceIte,Nat.reduceEqDiff,reduceCtorEq,Nat.reduceAdd,Nat.reduceLeDiff,ne_eq,Nat.reduceLT,Int.reduceLT,Int.reduceLE,Int.reduceNeg]
   simp only [E23,h37,g2',a1,a2,a3,a4,bytes_u8,hwr,EVN,EVT,EVD,↓reduceIte,Nat.reduceEqDiff,reduceCtorEq,Nat.reduceAdd,Nat.reduceLeDiff,ne_eq,Nat.reduceLT,Int.reduceLT,Int.reduceLE,Int.reduceNeg]
   exact ih
  ·have ho:orphT n=[]:=by unfold orphT; rw [if_neg h]
   have ih:=loop23 t hl hnn (acall tabT) rfl r (pre++[n]) (by simpa using he) s (by omega) fn base k
   rw [ho,List.nil_append]
   generalize s++r.flatMap orphT=u at ih ⊢
   simp only [List.length_append,List.length_cons,List.length_nil,Nat.zero_add,eTreeC] at ih
   rw [exK_loop]
   by_cases h1:n.kind=1
   ·have hb1:(n.kind==1)=true:=by simpa using h1
    have hb2:(n.links==0)=false:=by simpa using fun h2=>h ⟨h1,h2⟩
    simp only [E23,eTreeC,eNode,eNodeC,List.length_map,hlt,hix,hi0,hb1,hb2,EVN,EVT,EVD,↓reduceIte,Nat.reduceEqDiff,reduceCtorEq,Nat.reduceAdd,Nat.reduceLeDiff,ne_eq,Nat.reduceLT,Int.reduceLT,Int.reduceLE,Int.reduceNeg]
    simp only [E23,hwr,EVN,EVT,EVD,↓reduceIte,Nat.reduceEqDiff,reduceCtorEq,Nat.reduceAdd,Nat.reduceLeDiff,ne_eq,Nat.reduceLT,Int.reduceLT,Int.reduceLE,Int.reduceNeg]
    exact ih
   ·have hb1:(n.kind==1)=false:=by simpa using h1
    simp only [E23,eTreeC,eNode,eNodeC,List.length_map,hlt,hix,hi0,hb1,EVN,EVT,EVD,↓reduceIte,Nat.reduceEqDiff,reduceCtorEq,Nat.reduceAdd,Nat.reduceLeDiff,ne_eq,Nat.reduceLT,Int.reduceLT,Int.reduceLE,Int.reduceNeg]
    simp only [E23,hwr,EVN,EVT,EVD,↓reduceIte,Nat.reduceEqDiff,reduceCtorEq,Nat.reduceAdd,Nat.reduceLeDiff,ne_eq,Nat.reduceLT,Int.reduceLT,Int.reduceLE,Int.reduceNeg]
    exact ih
structure TrOk (t:Tree):Prop where
 len:t.nodes.length≤1000
 nd:∀i,NdOk (nodeN t.nodes i)
 mem:∀x,x∈t.nodes→NdOk x
 fin:FinB t.nodes 12 1
theorem c23 (t:Tree) (h:TrOk t):acall tabT 23 [eTree t] []=some (.str (treeT t.nodes 12),[]):=by
 refine acall_ex rfl rfl rfl ?_
 have hl:=h.len
 have h54:=fun M=>callOp0 (c54 t (by omega) h.nd 12 1 [] (by omega) h.fin (by simp)) rfl rfl rfl rfl rfl M
 have hb:=belowT_le h.nd 12 1 [] h.fin (by simp)
 rw [bB12] at hb
 simp only [eTree,eTreeC] at h54
 obtain ⟨B,hB⟩:∃B,belowT t.nodes 12 1 []=B:=⟨_,rfl⟩
 rw [hB] at h54 hb
 have ht:treeT t.nodes 12=[47,32,100,105,114,32,49,10]++B++t.nodes.flatMap orphT:=by unfold treeT; rw [hB]
 rw [ht]
 have h0:=loop23 t (by omega) h.mem (acall tabT) rfl t.nodes [] rfl ([47,32,100,105,114,32,49,10]++B) (by simp; omega)
 simp only [List.length_nil,eTreeC] at h0
 have a1:=max_lt (8+B.length) (by omega)
 have a1':=max_lt (1+1+1+1+1+1+1+1+B.length) (by omega)
 simp only [fn23,E23,eTree,eTreeC,h54,a1,a1',EVN,EVT,EVD,↓reduceIte,Nat.reduceEqDiff,reduceCtorEq,Nat.reduceAdd,Nat.reduceLeDiff,ne_eq,Nat.reduceLT,Int.reduceLT,Int.reduceLE,Int.reduceNeg]
 refine (h0 _ _ _).trans ?_
 simp only [E23,EVN,EVT,EVD,↓reduceIte,Nat.reduceEqDiff,reduceCtorEq,Nat.reduceAdd,Nat.reduceLeDiff,ne_eq,Nat.reduceLT,Int.reduceLT,Int.reduceLE,Int.reduceNeg]
theorem k23 (t:Tree) (h:TrOk t) (M:AMem):callOp (acall tabT) 23 [eTree t] M=some (.str (treeT t.nodes 12),M):=callOp0 (c23 t h) rfl rfl rfl rfl rfl M
end Go.Proofs.YtannopdcbocngaaGreatDoor
namespace Go.Proofs.YtannopdcbocngaaGreatDoor
open Go Go.Abs
attribute [local irreducible] exK opsK opK gK forkK kr acall callOp owhen obind
abbrev mapB (ns:List Node):ABox := .map (ns.map fun n=>eI n.ino) (ns.map eNode)
abbrev wr (p k m:Nat) (l:Bytes):ABox := .cells [.bself p 96,.obuf k 5 false l,.mref m]
abbrev wrM (ns:List Node) (l:Bytes):AMem:=[wr 0 1 2 l,.tick 1 l.length,mapB ns]
theorem mapB_ids (ns:List Node):(mapB ns).ids=[]:=by
 simp only [ABox.ids]
 induction ns with
 |nil=>rfl
 |cons n r ih =>
  rw [List.map_cons,List.flatMap_cons,ih]
  rfl
theorem mapB_flat (ns:List Node):(mapB ns).flat=true:=by
 simp only [ABox.flat,List.all_eq_true]
 intro x hx
 obtain ⟨n,_,rfl⟩:=List.mem_map.1 hx
 rfl
theorem mapB_ren (ns:List Node) (ρ:Nat→Nat):(mapB ns).ren ρ=mapB ns:=by
 simp only [ABox.ren,List.map_map]
 congr 1
theorem callOpW {C:CallF} {f p k m:Nat} {vs:List AVal} {r:AVal} {M:AMem} {l:Bytes} {b':AVal} {n':Nat} {ns:List Node} (hp:nth M p=some (wr p k m l)) (hk:nth M k=some (.tick 1 l.length)) (hm:nth M m=some (mapB ns)) (hpk:p≠k) (hpm:p≠m) (hkm:k≠m)
  (h:C f (.ptr 0 0::vs) (wrM ns l)=some (r,[.cells [.bself 0 96,b',.mref 2],.tick 1 n',mapB ns])) (h1:vs.all AVal.flat=true) (h2:vs.flatMap AVal.ids=[])
  (h4:vs.map (AVal.ren (idxN [p,k,m]))=vs) (h5:r.renR (atN [p,k,m])=r) (h3:r.flatR=true) (hb:b'.flat1=true) :
  callOp C f (.ptr p 0::vs) M=some (r,setN (setN (setN M p (.cells [.bself p 96,b'.ren1 (atN [p,k,m]),.mref m])) k (.tick 1 n')) m (mapB ns)):=by
 have hids:(AVal.ptr p 0::vs).flatMap AVal.ids=[p]:=by simp [AVal.ids,AVal.ids1,AVal.ids0,h2]
 have hi:idsAt M [p]=[p,k,m]:=by simp [idsAt,hp,ABox.ids,AVal.ids1,AVal.ids0]
 have hmi:=mapB_ids ns
 have hi2:idsAt M [p,k,m]=[p,k,m]:=by
  simp only [idsAt,hp,hk,hm,hmi]
  simp [ABox.ids,AVal.ids1,AVal.ids0]
 have n1:=Ne.symm hpk
 have n2:=Ne.symm hpm
 have n3:=Ne.symm hkm
 have e0:reach1 M [p]=[p,k,m]:=by simp [reach1,hi,addAll,n1,n2,n3]
 have e2:reach1 M [p,k,m]=[p,k,m]:=by simp [reach1,hi2,addAll]
 have e1:reach M [p]=[p,k,m]:=by
  have ea:addAll [] [p]=[p]:=rfl
  simp only [reach,ea,e0,e2]
 have hfl:(AVal.ptr p 0::vs).all AVal.flat=true:=by simp only [List.all_cons,h1,Bool.and_true]; rfl
 unfold callOp
 rw [if_pos hfl,hids,e1]
 have i0:idxN [p,k,m] p=0:=by simp [idxN]
 have i1:idxN [p,k,m] k=1:=by simp [idxN,hpk]
 have i2:idxN [p,k,m] m=2:=by simp [idxN,hpm,hkm]
 have hpkm:pickM M (idxN [p,k,m]) [p,k,m]=some (wrM ns l):=by
  simp only [pickM,hp,hk,hm,mapB_flat ns,mapB_ren ns,if_true,obind_some]
  simp [ABox.flat,AVal.flat1,AVal.flat0,ABox.ren,AVal.ren1,AVal.ren0,i0,i1,i2]
 rw [hpkm]
 simp only [obind_some]
 rw [if_pos e2]
 have hrn:(AVal.ptr p 0::vs).map (AVal.ren (idxN [p,k,m])) = .ptr 0 0::vs:=by
  simp only [List.map_cons,h4]
  simp [AVal.ren,AVal.ren1,AVal.ren0,i0]
 rw [hrn,h]
 simp only [obind_some]
 rw [if_pos ⟨rfl,h3,by
  simp only [List.all_cons,mapB_flat ns]
  simp [ABox.flat,AVal.flat1,AVal.flat0] at hb ⊢
  exact hb⟩,h5]
 simp only [wback,mapB_ren ns]
 simp [ABox.ren,AVal.ren1,AVal.ren0,atN,nth]
theorem back_nodes (B:Nat) (M:AMem) (ns:List Node):List.map (AVal.back2 B M) (List.map eNode ns)=List.map eNode ns:=by
 rw [List.map_map]
 exact List.map_congr_left fun n _=>rfl
theorem roomW {a:Nat} (h:a≤17592186044416):roomOk a 1=True:=by
 simp only [eq_iff_iff,iff_true]
 unfold roomOk
 omega
theorem c91w (ns:List Node) (l:Bytes):acall tabT 91 [.ptr 0 0] (wrM ns l)=some (.tuple [],wrM ns l):=acall_prim (g:=pCheck) rfl rfl
theorem k91w (ns:List Node) (l:Bytes):callOp (acall tabT) 91 [.ptr 0 0] (wrM ns l)=some (.tuple [],wrM ns l) :=
 callOpW (p:=0) (k:=1) (m:=2) rfl rfl rfl (by decide) (by decide) (by decide) (c91w ns l) rfl rfl rfl rfl rfl rfl
theorem c50w (ns:List Node) (l s:Bytes) (h:l.length+s.length≤17592186044416):acall tabT 50 [.ptr 0 0,.str s] (wrM ns l)=some (.tuple [eI s.length,.raw .nilIface],wrM ns (l++s)):=by
 refine acall_ex rfl rfl rfl ?_
 have hr:=roomW h
 have h91:=k91w ns l
 simp only [wrM,wr,mapB] at h91
 simp only [fn50,E50,h91,hr,back_nodes,EVT,EVD,↓reduceIte,Nat.reduceEqDiff,reduceCtorEq,Nat.reduceAdd,Nat.reduceLeDiff,ne_eq,Nat.reduceLT,Int.reduceLT,Int.reduceLE,Int.reduceNeg]
 simp
theorem k50w {p k m:Nat} {M:AMem} {l:Bytes} {ns:List Node} (s:Bytes) (hp:nth M p=some (wr p k m l)) (hk:nth M k=some (.tick 1 l.length)) (hm:nth M m=some (mapB ns)) (hpk:p≠k) (hpm:p≠m) (hkm:k≠m) (h:l.length+s.length≤17592186044416) :
  callOp (acall tabT) 50 [.ptr p 0,.str s] M=some (.tuple [eI s.length,.raw .nilIface],setN (setN (setN M p (wr p k m (l++s))) k (.tick 1 (l++s).length)) m (mapB ns)):=by
 have:=callOpW (vs:=[.str s]) hp hk hm hpk hpm hkm (c50w ns l s h) rfl rfl rfl rfl rfl rfl
 rw [this]
 simp [AVal.ren1,AVal.ren0,atN,nth]
theorem c53 (ns:List Node) (l pre:Bytes) (n:Node) (hn:NdOk n) (hp:pre.length≤10000) (h:l.length+40000≤17592186044416):acall tabT 53 [.ptr 0 0,.str pre,eNode n] (wrM ns l)=some (.tuple [],wrM ns (l++fileLine pre n)):=by
 refine acall_ex rfl rfl rfl ?_
 have hil:=itoa_le hn.ino
 have hdl:=hn.data
 have hfl:=fileLine_le (pre:=pre) hn
 have h42:=fun M=>kT0 (k42 n.ino hn.ino M)
 have h44:=fun M=>kT0 (k44 n.data (by omega) M)
 have hel:=escN_le n.data
 obtain ⟨q,hq⟩:∃q,pre++[32,102,105,108,101,32]++Lib.itoa n.ino=q:=⟨_,rfl⟩
 have hql:q.length≤20000:=by rw [←hq]; simp; omega
 have h43:=fun M=>kT0 (k43 q (by omega) [⟨wLinks,n.links,[]⟩,⟨wData,0,escN n.data⟩] (by
  intro f hf
  simp only [List.mem_cons,List.not_mem_nil,or_false] at hf
  rcases hf with rfl|rfl
  ·exact ⟨by simp [wLinks],hn.links,by simp⟩
  ·exact ⟨by simp [wData],okI_zero,by simp only; omega⟩) (by simp) M)
 obtain ⟨z,hz⟩:∃z,lineN q [⟨wLinks,n.links,[]⟩,⟨wData,0,escN n.data⟩]=z:=⟨_,rfl⟩
 have hfz:fileLine pre n=z++[10]:=by
  rw [←hz,←hq]
  simp [fileLine,lineN,fldsN,wFile]
 rw [hfz] at hfl ⊢
 rw [hz] at h43
 simp only [List.length_append,List.length_cons,List.length_nil] at hfl
 simp only [List.map_cons,List.map_nil,eFld,eFldC,wLinks,wData] at h43
 have x1:=max_lt (pre.length+6) (by omega)
 have x2:=max_lt (pre.length+6+(Lib.itoa n.ino).length) (by omega)
 have x3:=max_lt (z.length+1) (by omega)
 have h50:=fun c=>k50w (p:=0) (k:=1) (m:=2) (M:=[wr 0 1 2 l,.tick 1 l.length,mapB ns,.cells c]) (z++[10]) rfl rfl rfl (by decide) (by decide) (by decide) (by simp; omega)
 simp only [wr,mapB] at h50
 simp only [fn53,E53,eNode,eNodeC,wr,mapB,h42,h44,h43,h50,x1,x2,x3,bytes_u8,hq,back_nodes,EVN,EVT,EVD,↓reduceIte,Nat.reduceEqDiff,reduceCtorEq,Nat.reduceAdd,Nat.reduceLeDiff,ne_eq,Nat.reduceLT,Int.reduceLT,Int.reduceLE,Int.reduceNeg]
 simp
theorem k53 {M:AMem} {l:Bytes} {ns:List Node} (pre:Bytes) (n:Node) {p k m:Nat} (hp:nth M p=some (wr p k m l)) (hk:nth M k=some (.tick 1 l.length)) (hm:nth M m=some (mapB ns)) (hpk:p≠k) (hpm:p≠m) (hkm:k≠m) (hn:NdOk n) (hpl:pre.length≤10000) (h:l.length+40000≤17592186044416) :
  callOp (acall tabT) 53 [.ptr p 0,.str pre,eNode n] M=some (.tuple [],setN (setN (setN M p (wr p k m (l++fileLine pre n))) k (.tick 1 (l++fileLine pre n).length)) m (mapB ns)):=by
 have:=callOpW (vs:=[.str pre,eNode n]) hp hk hm hpk hpm hkm (c53 ns l pre n hn hpl h) rfl rfl rfl rfl rfl rfl
 rw [this]
 simp [AVal.ren1,AVal.ren0,atN,nth]
theorem look_map (i:Int):∀ns:List Node,mapGet .i (eI i) (ns.map fun n=>eI n.ino) (ns.map eNode)=some ((find ns i).map eNode)
 | []=>rfl
 |n::r=>by
  rw [List.map_cons,List.map_cons,mapGet]
  have he:eqCell .i (eI i) (eI n.ino)=some (i==n.ino):=by simp [eqCell]
  rw [he,obind_some]
  by_cases h:n.ino=i
  ·have hb:(i==n.ino)=true:=by simp [h]
   rw [hb,oif_true]
   simp [find,h]
  ·have hb:(i==n.ino)=false:=by simpa using fun e=>h e.symm
   rw [hb,oif_false,look_map i r]
   simp [find,h]
structure TrOk2 (t:Tree):Prop where
 ok:TrOk t
 root:∃r,find t.nodes 1=some r
 ents:∀i d e,find t.nodes i=some d→e∈d.ents→∃m,find t.nodes e.ino=some m∧m.ino=e.ino
 asc:Asc t.nodes
theorem loop52 (ns:List Node) (hn:∀i,NdOk (nodeN ns i)) (d:Node) (path:Bytes) (f:Nat) (hp:path.length+51≤1500) (hde:d.ents.length≤5) (hf:bB f≤17000000000000)
  (hfind:∀e,e∈d.ents→∃m,find ns e.ino=some m)
  (hent:∀e,e∈d.ents→e.name.length≤50∧((nodeN ns e.ino).kind=2→(belowT ns f (nodeN ns e.ino).ino (path++[47]++e.name)).length≤bB f∧∀l:Bytes,l.length+bB f+40000≤17592186044416→acall tabT 52 [.ptr 0 0,eI (nodeN ns e.ino).ino,.str (path++[47]++e.name)] (wrM ns l)=some (.tuple [],wrM ns (l++belowT ns f (nodeN ns e.ino).ino (path++[47]++e.name)))))
  (C:CallF) (hC:C=acall tabT):∀(r pre:List Ent),d.ents=pre++r→∀(l:Bytes),l.length+(20000+bB f)*r.length+40000≤17592186044416→∀(fn:List ARes) (base:Nat) (k:List K),
  exK C fn base (.block 0::k) (.loop [0,2,16,17,18] lb52_0) [(0,.ptr 0 0),(2,.str path),(16,eEnts d.ents),(17,eI d.ents.length),(18,eI pre.length)] (wrM ns l) =
  kr C fn base k ⟨.normal,[(0,.ptr 0 0),(2,.str path),(16,eEnts d.ents),(17,eI d.ents.length),(18,eI d.ents.length),(19,.bool false)],wrM ns (l++r.flatMap (entT ns (belowT ns f) path))⟩
 | [],pre,he,l,hl,fn,base,k=>by
  subst hC
  have hpre:pre=d.ents:=by simpa using he.symm
  have hlt':decide ((d.ents.length:Int)<d.ents.length)=false:=by simp
  have hq:(eI pre.length)=eI d.ents.length:=by rw [hpre]
  rw [exK_loop]
  simp only [E52,hlt',hq,List.flatMap_nil,List.append_nil,EVN,EVT,EVD,↓reduceIte,Nat.reduceEqDiff,reduceCtorEq,Nat.reduceAdd,Nat.reduceLeDiff,ne_eq,Nat.reduceLT,Int.reduceLT,Int.reduceLE,Int.reduceNeg]
 |e::r,pre,he,l,hl,fn,base,k=>by
  subst hC
  have hl':pre.length<d.ents.length:=by rw [he]; simp
  have hlt:decide ((pre.length:Int)<d.ents.length)=true:=by simpa using hl'
  have hix:d.ents[pre.length]?=some e:=by rw [he]; simp
  have hi0:(0:Int)≤pre.length:=by omega
  have hwr:IntKind.i64.wrap ((pre.length:Int)+1)=((pre.length+1:Nat):Int):=by rw [wrapS (by omega) (by omega)]; simp
  obtain ⟨he1,he2⟩:=hent e (by rw [he]; simp)
  obtain ⟨m,hm⟩:=hfind e (by rw [he]; simp)
  have hnd:=hn e.ino
  have hlook:=look_map e.ino ns
  rw [hm,Option.map_some] at hlook
  rw [List.length_cons,Nat.mul_add,Nat.mul_one] at hl
  have hle:=entT_le (f:=f) (path:=path) (e:=e) hn hp he1 (fun hk=>(he2 hk).1)
  have ih:=loop52 ns hn d path f hp hde hf hfind hent (acall tabT) rfl r (pre++[e]) (by simpa using he) (l++entT ns (belowT ns f) path e) (by simp; omega) fn base k
  have hfr:l++entT ns (belowT ns f) path e++r.flatMap (entT ns (belowT ns f) path)=l++(e::r).flatMap (entT ns (belowT ns f) path):=by simp
  rw [hfr] at ih
  generalize l++(e::r).flatMap (entT ns (belowT ns f) path)=u at ih ⊢
  have x1:=max_lt (path.length+1) (by omega)
  have x2:=max_lt (path.length+1+e.name.length) (by omega)
  have hpl:(path++[47]++e.name).length≤1500:=by simp; omega
  obtain ⟨p,hpp⟩:∃p,path++[47]++e.name=p:=⟨_,rfl⟩
  have hee:entT ns (belowT ns f) path e=if m.kind=2 then dirLine p m.ino++belowT ns f m.ino p else fileLine (escN p) m:=by unfold entT; simp only [hpp,nodeN_some hm]
  rw [hpp] at he2 hpl
  rw [hee] at ih hle
  rw [nodeN_some hm] at he2 hnd
  have h44:=fun M=>kT0 (k44 p (by omega) M)
  have h42:=fun M=>kT0 (k42 m.ino hnd.ino M)
  have hel:=escN_le p
  have hil:=itoa_le hnd.ino
  simp only [List.length_append,List.length_cons,List.length_nil,Nat.zero_add] at ih
  simp only [eI] at hlook
  rw [exK_loop]
  simp only [E52,wrM,wr,mapB,eNode,eNodeC,eEnt,eEntC,List.length_map,hlt,hix,hi0,hlook,x1,x2,hpp,mapOf,nth,lookRes,Option.getD_some,EVN,EVT,EVD,↓reduceIte,Nat.reduceEqDiff,reduceCtorEq,Nat.reduceAdd,Nat.reduceLeDiff,ne_eq,Nat.reduceLT,Int.reduceLT,Int.reduceLE,Int.reduceNeg]
  by_cases hk:m.kind=2
  ·have hb:(m.kind==2)=true:=by simpa using hk
   rw [if_pos hk] at ih hle
   obtain ⟨hb1,hb2⟩:=he2 hk
   rw [List.length_append] at hle
   have hdl:dirLine p m.ino=escN p++[32,100,105,114,32]++Lib.itoa m.ino++[10]:=rfl
   have y1:=max_lt ((escN p).length+5) (by omega)
   have y2:=max_lt ((escN p).length+5+(Lib.itoa m.ino).length) (by omega)
   have y3:=max_lt ((escN p).length+5+(Lib.itoa m.ino).length+1) (by omega)
   have hDl:=dirLine_le (p:=p) hnd.ino
   obtain ⟨D,hD⟩:∃D,dirLine p m.ino=D:=⟨_,rfl⟩
   rw [hD] at ih hdl hle hDl
   have hbf:bB f+40000≤17592186044416:=by omega
   have hb3:=hb2 (l++D) (by simp; omega)
   generalize belowT ns f m.ino p=B at *
   have h50:=fun c c'=>k50w (p:=0) (k:=1) (m:=2) (M:=[wr 0 1 2 l,.tick 1 l.length,mapB ns,.cells c,.cells c']) D rfl rfl rfl (by decide) (by decide) (by decide) (by omega)
   have h52:=fun c c'=>callOpW (p:=0) (k:=1) (m:=2) (M:=[wr 0 1 2 (l++D),.tick 1 (l++D).length,mapB ns,.cells c,.cells c']) (vs:=[eI m.ino,.str p]) rfl rfl rfl (by decide) (by decide) (by decide) hb3 rfl rfl rfl rfl rfl rfl
   have hcat:l++(D++B)=l++D++B:=by simp
   rw [hcat] at ih
   simp only [wrM,wr,mapB,List.length_append] at h50 h52 ih
   simp only [E52,hb,h44,h42,y1,y2,y3,←hdl,h50,EVN,EVT,EVD,↓reduceIte,Nat.reduceEqDiff,reduceCtorEq,Nat.reduceAdd,Nat.reduceLeDiff,ne_eq,Nat.reduceLT,Int.reduceLT,Int.reduceLE,Int.reduceNeg]
   simp only [E52,h52,hwr,back_nodes,AVal.ren1,AVal.ren0,atN,nth,Option.getD_some,EVN,EVT,EVD,↓reduceIte,Nat.reduceEqDiff,reduceCtorEq,Nat.reduceAdd,Nat.reduceLeDiff,ne_eq,Nat.reduceLT,Int.reduceLT,Int.reduceLE,Int.reduceNeg]
   exact ih
  ·have hb:(m.kind==2)=false:=by simpa using hk
   rw [if_neg hk] at ih hle
   have h53:=fun c c'=>k53 (p:=0) (k:=1) (m:=2) (M:=[wr 0 1 2 l,.tick 1 l.length,mapB ns,.cells c,.cells c']) (escN p) m rfl rfl rfl (by decide) (by decide) (by decide) hnd (by omega) (by omega)
   simp only [wrM,wr,mapB,List.length_append,eNode,eNodeC] at h53 ih
   simp only [E52,hb,h44,h53,EVN,EVT,EVD,↓reduceIte,Nat.reduceEqDiff,reduceCtorEq,Nat.reduceAdd,Nat.reduceLeDiff,ne_eq,Nat.reduceLT,Int.reduceLT,Int.reduceLE,Int.reduceNeg]
   simp only [E52,hwr,back_nodes,EVN,EVT,EVD,↓reduceIte,Nat.reduceEqDiff,reduceCtorEq,Nat.reduceAdd,Nat.reduceLeDiff,ne_eq,Nat.reduceLT,Int.reduceLT,Int.reduceLE,Int.reduceNeg]
   exact ih
theorem c52 (t:Tree) (h:TrOk2 t):∀(f:Nat) (i:Int) (path:Bytes) (d:Node),f≤12→find t.nodes i=some d→FinB t.nodes f i→path.length+51*f≤1400→∀l:Bytes,l.length+bB f+40000≤17592186044416 →
  acall tabT 52 [.ptr 0 0,eI i,.str path] (wrM t.nodes l)=some (.tuple [],wrM t.nodes (l++belowT t.nodes f i path))
 |f,i,path,d,hf12,hfd,hfin,hp,l,hl=>by
  refine acall_ex rfl rfl rfl ?_
  have hlook:=look_map i t.nodes
  rw [hfd,Option.map_some] at hlook
  have hres:∃g,g≤12∧d.ents.length≤5∧(20000+bB g)*d.ents.length≤bB f∧belowT t.nodes f i path=d.ents.flatMap (entT t.nodes (belowT t.nodes g) path)∧(∀e,e∈d.ents→e.name.length≤50∧((nodeN t.nodes e.ino).kind=2→(belowT t.nodes g (nodeN t.nodes e.ino).ino (path++[47]++e.name)).length≤bB g∧∀l:Bytes,l.length+bB g+40000≤17592186044416→acall tabT 52 [.ptr 0 0,eI (nodeN t.nodes e.ino).ino,.str (path++[47]++e.name)] (wrM t.nodes l)=some (.tuple [],wrM t.nodes (l++belowT t.nodes g (nodeN t.nodes e.ino).ino (path++[47]++e.name))))):=by
   match f,hf12,hfin,hp with
   |0,_,hfin,hp =>
    have h0:d.ents=[]:=by rw [←nodeN_some hfd]; exact hfin
    exact ⟨0,by omega,by rw [h0]; simp,by rw [h0]; simp,by rw [h0]; rfl,by rw [h0]; intro e he; cases he⟩
   |g+1,hf12,hfin,hp =>
    have h5:=hfin.1
    rw [nodeN_some hfd] at h5
    refine ⟨g,by omega,h5,?_,by rw [belowT,nodeN_some hfd],fun e he=>?_⟩
    ·have:(20000+bB g)*d.ents.length≤(20000+bB g)*5:=Nat.mul_le_mul (Nat.le_refl _) h5
     simp only [bB]; omega
    ·have h1:=(hfin.2 e (by rw [nodeN_some hfd]; exact he)).1
     refine ⟨h1,fun hk=>?_⟩
     have h2:=(hfin.2 e (by rw [nodeN_some hfd]; exact he)).2 hk
     obtain ⟨m,hm,hmi⟩:=h.ents i d e hfd he
     refine ⟨belowT_le h.ok.nd g _ _ h2 (by simp; omega),fun l' hl'=>?_⟩
     rw [nodeN_some hm] at h2 ⊢
     exact c52 t h g m.ino _ m (by omega) (by rw [hmi]; exact hm) h2 (by simp; omega) l' hl'
  obtain ⟨g,hg,h5,hbf,hb,hent⟩:=hres
  have hbg:=bB_mono hg
  rw [bB12] at hbg
  have h0:=fun fn base k=>loop52 t.nodes h.ok.nd d path g (by omega) h5 (by omega) (fun e he=>by obtain ⟨m,hm,_⟩:=h.ents i d e hfd he; exact ⟨m,hm⟩) hent (acall tabT) rfl d.ents [] rfl l (by omega) fn base k
  simp only [List.length_nil,wrM,wr,mapB] at h0
  rw [←hb] at h0
  simp only [eI] at hlook
  simp only [fn52,E52,wrM,wr,mapB,hlook,mapOf,nth,lookRes,Option.getD_some,eNode,eNodeC,EVN,EVT,EVD,↓reduceIte,Nat.reduceEqDiff,reduceCtorEq,Nat.reduceAdd,Nat.reduceLeDiff,ne_eq,Nat.reduceLT,Int.reduceLT,Int.reduceLE,Int.reduceNeg]
  refine (h0 _ _ _).trans ?_
  simp only [E52,back_nodes,EVN,EVT,EVD,↓reduceIte,Nat.reduceEqDiff,reduceCtorEq,Nat.reduceAdd,Nat.reduceLeDiff,ne_eq,Nat.reduceLT,Int.reduceLT,Int.reduceLE,Int.reduceNeg]
end Go.Proofs.YtannopdcbocngaaGreatDoor
namespace Go.Proofs.YtannopdcbocngaaGreatDoor
open Go Go.Abs
attribute [local irreducible] exK opsK opK gK forkK kr acall callOp owhen obind
theorem put_map (n:Node):∀pre:List Node,(∀x,x∈pre→x.ino≠n.ino)→mapPut .i (eI n.ino) (eNode n) (pre.map fun n=>eI n.ino) (pre.map eNode)=some ((pre++[n]).map (fun n=>eI n.ino),(pre++[n]).map eNode)
 | [],_=>by
  rw [List.map_nil,List.map_nil,mapPut]
  have he:eqCell .i (eI n.ino) (eI n.ino)=some (n.ino==n.ino):=by simp [eqCell]
  rw [he,obind_some]
  rfl
 |x::r,h=>by
  have h1:=h x (by simp)
  have ih:=put_map n r (fun y hy=>h y (by simp [hy]))
  rw [List.map_cons,List.map_cons,mapPut]
  have he:eqCell .i (eI n.ino) (eI x.ino)=some (n.ino==x.ino):=by simp [eqCell]
  have hb:(n.ino==x.ino)=false:=by simpa using fun e=>h1 e.symm
  rw [he,obind_some,hb,oif_false,ih,obind_some]
  rfl
theorem c51w (ns:List Node) (l:Bytes) (h:l.length≤17592186044416) (h0:l≠[]):acall tabT 51 [.ptr 0 0] (wrM ns l)=some (.str l,[.cells [.bself 0 96,.any,.mref 2],.tick 1 (l.length+1),mapB ns]):=by
 refine acall_prim (g:=pString) rfl ?_
 unfold pString
 simp only [nth]
 rw [if_pos ⟨trivial,trivial,trivial,by omega,.inl h0⟩]
 rfl
theorem loop22a (t:Tree) (hasc:Asc t.nodes) (hl:t.nodes.length≤100000) (C:CallF) (hC:C=acall tabT):∀(r pre:List Node),t.nodes=pre++r→∀(fn:List ARes) (base:Nat) (k:List K),
  exK C fn base (.block 0::k) (.loop [1,3,12,13,14] lb22_0) [(1,.ptr 0 0),(3,.ptr 3 0),(12,eNodes t.nodes),(13,eI t.nodes.length),(14,eI pre.length)] [.cells (eTreeC t),mapB pre,.tick 1 0,wr 3 2 1 []] =
  kr C fn base k ⟨.normal,[(1,.ptr 0 0),(3,.ptr 3 0),(12,eNodes t.nodes),(13,eI t.nodes.length),(14,eI t.nodes.length),(15,.bool false)],[.cells (eTreeC t),mapB t.nodes,.tick 1 0,wr 3 2 1 []]⟩
 | [],pre,he,fn,base,k=>by
  subst hC
  have hpre:pre=t.nodes:=by simpa using he.symm
  have hlt':decide ((t.nodes.length:Int)<t.nodes.length)=false:=by simp
  rw [hpre,exK_loop]
  simp only [E22,eTreeC,hlt',EVN,EVT,EVD,↓reduceIte,Nat.reduceEqDiff,reduceCtorEq,Nat.reduceAdd,Nat.reduceLeDiff,ne_eq,Nat.reduceLT,Int.reduceLT,Int.reduceLE,Int.reduceNeg]
 |n::r,pre,he,fn,base,k=>by
  subst hC
  have hl':pre.length<t.nodes.length:=by rw [he]; simp
  have hlt:decide ((pre.length:Int)<t.nodes.length)=true:=by simpa using hl'
  have hix:t.nodes[pre.length]?=some n:=by rw [he]; simp
  have hi0:(0:Int)≤pre.length:=by omega
  have hwr:IntKind.i64.wrap ((pre.length:Int)+1)=((pre.length+1:Nat):Int):=by rw [wrapS (by omega) (by omega)]; simp
  have hne:∀x,x∈pre→x.ino≠n.ino:=fun x hx=>by
   have h1:Asc (pre++n::r):=by rw [←he]; exact hasc
   have:=(List.pairwise_append.1 h1).2.2 x hx n (by simp)
   omega
  have hput:=put_map n pre hne
  simp only [eI,eNode,eNodeC] at hput
  have ih:=loop22a t hasc hl (acall tabT) rfl r (pre++[n]) (by simpa using he) fn base k
  simp only [List.length_append,List.length_cons,List.length_nil,Nat.zero_add,mapB,eI,eTreeC] at ih
  rw [exK_loop]
  simp only [E22,eTreeC,eNode,eNodeC,List.length_map,hlt,hix,hi0,hput,mapB,wr,nth,EVN,EVT,EVD,↓reduceIte,Nat.reduceEqDiff,reduceCtorEq,Nat.reduceAdd,Nat.reduceLeDiff,ne_eq,Nat.reduceLT,Int.reduceLT,Int.reduceLE,Int.reduceNeg]
  simp only [E22,hwr,back_nodes,EVN,EVT,EVD,↓reduceIte,Nat.reduceEqDiff,reduceCtorEq,Nat.reduceAdd,Nat.reduceLeDiff,ne_eq,Nat.reduceLT,Int.reduceLT,Int.reduceLE,Int.reduceNeg]
  exact ih
theorem loop22b (t:Tree) (hl:t.nodes.length≤1000) (hnn:∀x,x∈t.nodes→NdOk x) (C:CallF) (hC:C=acall tabT):∀(r pre:List Node),t.nodes=pre++r→∀(l:Bytes),l.length+20000*r.length+50000≤17592186044416→∀(fn:List ARes) (base:Nat) (k:List K),
  exK C fn base (.block 2::k) (.loop [3,33,34,35] lb22_1) [(3,.ptr 3 0),(33,eNodes t.nodes),(34,eI t.nodes.length),(35,eI pre.length)] [.cells (eTreeC t),mapB t.nodes,.tick 1 l.length,wr 3 2 1 l] =
  kr C fn base k ⟨.normal,[(3,.ptr 3 0),(33,eNodes t.nodes),(34,eI t.nodes.length),(35,eI t.nodes.length),(36,.bool false)],[.cells (eTreeC t),mapB t.nodes,.tick 1 (l++r.flatMap orphT).length,wr 3 2 1 (l++r.flatMap orphT)]⟩
 | [],pre,he,l,hll,fn,base,k=>by
  subst hC
  have hpre:pre=t.nodes:=by simpa using he.symm
  have hlt':decide ((t.nodes.length:Int)<t.nodes.length)=false:=by simp
  rw [hpre,exK_loop]
  simp only [E22,eTreeC,hlt',List.flatMap_nil,List.append_nil,EVN,EVT,EVD,↓reduceIte,Nat.reduceEqDiff,reduceCtorEq,Nat.reduceAdd,Nat.reduceLeDiff,ne_eq,Nat.reduceLT,Int.reduceLT,Int.reduceLE,Int.reduceNeg]
 |n::r,pre,he,l,hll,fn,base,k=>by
  subst hC
  have hl':pre.length<t.nodes.length:=by rw [he]; simp
  have hlt:decide ((pre.length:Int)<t.nodes.length)=true:=by simpa using hl'
  have hix:t.nodes[pre.length]?=some n:=by rw [he]; simp
  have hi0:(0:Int)≤pre.length:=by omega
  have hwr:IntKind.i64.wrap ((pre.length:Int)+1)=((pre.length+1:Nat):Int):=by rw [wrapS (by omega) (by omega)]; simp
  have hnd:=hnn n (by rw [he]; simp)
  rw [List.length_cons] at hll
  have hfr:(n::r).flatMap orphT=orphT n++r.flatMap orphT:=by simp
  rw [hfr]
  by_cases h:n.kind=1∧n.links=0
  ·have hb1:(n.kind==1)=true:=by simpa using h.1
   have hb2:(n.links==0)=true:=by simpa using h.2
   have ho:orphT n=fileLine [45] n:=by unfold orphT; rw [if_pos h]
   have hfl:=fileLine_le (pre:=[45]) hnd
   rw [ho]
   simp only [List.length_cons,List.length_nil] at hfl
   have h53:=fun c=>k53 (p:=3) (k:=2) (m:=1) (M:=[.cells (eTreeC t),mapB t.nodes,.tick 1 l.length,wr 3 2 1 l,.cells c]) [45] n rfl rfl rfl (by decide) (by decide) (by decide) hnd (by simp) (by omega)
   have ih:=loop22b t hl hnn (acall tabT) rfl r (pre++[n]) (by simpa using he) (l++fileLine [45] n) (by simp; omega) fn base k
   have hcat:l++fileLine [45] n++r.flatMap orphT=l++(fileLine [45] n++r.flatMap orphT):=by simp
   rw [hcat] at ih
   generalize l++(fileLine [45] n++r.flatMap orphT)=u at ih ⊢
   simp only [List.length_append,List.length_cons,List.length_nil,Nat.zero_add,mapB,wr,eTreeC,eI] at ih
   simp only [eTreeC,mapB,wr,eNode,eNodeC,List.length_append,eI] at h53
   rw [exK_loop]
   simp only [E22,eTreeC,eNode,eNodeC,List.length_map,hlt,hix,hi0,hb1,hb2,mapB,wr,EVN,EVT,EVD,↓reduceIte,Nat.reduceEqDiff,reduceCtorEq,Nat.reduceAdd,Nat.reduceLeDiff,ne_eq,Nat.reduceLT,Int.reduceLT,Int.reduceLE,Int.reduceNeg]
   simp only [E22,h53,hwr,back_nodes,EVN,EVT,EVD,↓reduceIte,Nat.reduceEqDiff,reduceCtorEq,Nat.reduceAdd,Nat.reduceLeDiff,ne_eq,Nat.reduceLT,Int.reduceLT,Int.reduceLE,Int.reduceNeg]
   exact ih
  ·have ho:orphT n=[]:=by unfold orphT; rw [if_neg h]
   have ih:=loop22b t hl hnn (acall tabT) rfl r (pre++[n]) (by simpa using he) l (by omega) fn base k
   rw [ho,List.nil_append]
   generalize l++r.flatMap orphT=u at ih ⊢
   simp only [List.length_append,List.length_cons,List.length_nil,Nat.zero_add,mapB,wr,eTreeC,eI] at ih
   rw [exK_loop]
   by_cases h1:n.kind=1
   ·have hb1:(n.kind==1)=true:=by simpa using h1
    have hb2:(n.links==0)=false:=by simpa using fun h2=>h ⟨h1,h2⟩
    simp only [E22,eTreeC,eNode,eNodeC,List.length_map,hlt,hix,hi0,hb1,hb2,mapB,wr,EVN,EVT,EVD,↓reduceIte,Nat.reduceEqDiff,reduceCtorEq,Nat.reduceAdd,Nat.reduceLeDiff,ne_eq,Nat.reduceLT,Int.reduceLT,Int.reduceLE,Int.reduceNeg]
    simp only [E22,hwr,back_nodes,EVN,EVT,EVD,↓reduceIte,Nat.reduceEqDiff,reduceCtorEq,Nat.reduceAdd,Nat.reduceLeDiff,ne_eq,Nat.reduceLT,Int.reduceLT,Int.reduceLE,Int.reduceNeg]
    exact ih
   ·have hb1:(n.kind==1)=false:=by simpa using h1
    simp only [E22,eTreeC,eNode,eNodeC,List.length_map,hlt,hix,hi0,hb1,mapB,wr,EVN,EVT,EVD,↓reduceIte,Nat.reduceEqDiff,reduceCtorEq,Nat.reduceAdd,Nat.reduceLeDiff,ne_eq,Nat.reduceLT,Int.reduceLT,Int.reduceLE,Int.reduceNeg]
    simp only [E22,hwr,back_nodes,EVN,EVT,EVD,↓reduceIte,Nat.reduceEqDiff,reduceCtorEq,Nat.reduceAdd,Nat.reduceLeDiff,ne_eq,Nat.reduceLT,Int.reduceLT,Int.reduceLE,Int.reduceNeg]
    exact ih
theorem flat_orph (l:List Node) (h:∀x,x∈l→NdOk x):(l.flatMap orphT).length≤20000*l.length :=
 flat_le orphT 20000 l fun x hx=>by
  unfold orphT
  split
  ·have:=fileLine_le (pre:=[45]) (h x hx)
   simp only [List.length_cons,List.length_nil] at this
   omega
  ·simp
theorem c22 (t:Tree) (h:TrOk2 t):acall tabT 22 [eTree t] []=some (.str (treeT t.nodes 12),[]):=by
 refine acall_ex rfl rfl rfl ?_
 have hl:=h.ok.len
 obtain ⟨r0,hr0⟩:=h.root
 have hb:=belowT_le h.ok.nd 12 1 [] h.ok.fin (by simp)
 have ho:=flat_orph t.nodes h.ok.mem
 have h52:=c52 t h 12 1 [] r0 (by omega) hr0 h.ok.fin (by simp) [47,32,100,105,114,32,49,10] (by rw [bB12]; simp)
 rw [bB12] at hb
 obtain ⟨B,hB⟩:∃B,belowT t.nodes 12 1 []=B:=⟨_,rfl⟩
 rw [hB] at h52 hb
 have ht:treeT t.nodes 12=[47,32,100,105,114,32,49,10]++B++t.nodes.flatMap orphT:=by unfold treeT; rw [hB]
 rw [ht]
 obtain ⟨L,hL⟩:∃L,[47,32,100,105,114,32,49,10]++B=L:=⟨_,rfl⟩
 have hLl:L.length=B.length+8:=by rw [←hL]; simp
 rw [hL] at h52 ⊢
 have ha:=loop22a t h.asc (by omega) (acall tabT) rfl t.nodes [] rfl
 have hb2:=loop22b t hl h.ok.mem (acall tabT) rfl t.nodes [] rfl L (by omega)
 obtain ⟨U,hU⟩:∃U,L++t.nodes.flatMap orphT=U:=⟨_,rfl⟩
 have hUl:U.length≤17592186044416:=by rw [←hU,List.length_append]; omega
 have hU0:U≠[]:=by rw [←hU,←hL]; simp
 rw [hU] at hb2 ⊢
 have k50:=k50w (p:=3) (k:=2) (m:=1) (M:=[.cells (eTreeC t),mapB t.nodes,.tick 1 0,wr 3 2 1 []]) [47,32,100,105,114,32,49,10] rfl rfl rfl (by decide) (by decide) (by decide) (by simp)
 have k52:=callOpW (p:=3) (k:=2) (m:=1) (M:=[.cells (eTreeC t),mapB t.nodes,.tick 1 8,wr 3 2 1 [47,32,100,105,114,32,49,10]]) (vs:=[eI 1,.str []]) rfl rfl rfl (by decide) (by decide) (by decide) h52 rfl rfl rfl rfl rfl rfl
 have k51:=callOpW (p:=3) (k:=2) (m:=1) (M:=[.cells (eTreeC t),mapB t.nodes,.tick 1 U.length,wr 3 2 1 U]) (vs:=[]) rfl rfl rfl (by decide) (by decide) (by decide) (c51w t.nodes U hUl hU0) rfl rfl rfl rfl rfl rfl
 simp only [List.length_nil,List.map_nil,eTreeC,mapB,wr,eI] at ha hb2
 simp only [eTreeC,mapB,wr,eI,List.nil_append,List.length_cons,List.length_nil] at k50 k52 k51
 simp only [fn22,E22,eTree,eTreeC,EVN,EVT,EVD,↓reduceIte,Nat.reduceEqDiff,reduceCtorEq,Nat.reduceAdd,Nat.reduceLeDiff,ne_eq,Nat.reduceLT,Int.reduceLT,Int.reduceLE,Int.reduceNeg]
 refine (ha _ _ _).trans ?_
 simp only [E22,k50,nth,EVN,EVT,EVD,↓reduceIte,Nat.reduceEqDiff,reduceCtorEq,Nat.reduceAdd,Nat.reduceLeDiff,ne_eq,Nat.reduceLT,Int.reduceLT,Int.reduceLE,Int.reduceNeg]
 simp only [E22,k52,AVal.ren1,AVal.ren0,atN,nth,Option.getD_some,EVN,EVT,EVD,↓reduceIte,Nat.reduceEqDiff,reduceCtorEq,Nat.reduceAdd,Nat.reduceLeDiff,ne_eq,Nat.reduceLT,Int.reduceLT,Int.reduceLE,Int.reduceNeg]
 refine (hb2 _ _ _).trans ?_
 simp only [E22,k51,EVN,EVT,EVD,↓reduceIte,Nat.reduceEqDiff,reduceCtorEq,Nat.reduceAdd,Nat.reduceLeDiff,ne_eq,Nat.reduceLT,Int.reduceLT,Int.reduceLE,Int.reduceNeg]
theorem k22 (t:Tree) (h:TrOk2 t) (M:AMem):callOp (acall tabT) 22 [eTree t] M=some (.str (treeT t.nodes 12),M):=callOp0 (c22 t h) rfl rfl rfl rfl rfl M
end Go.Proofs.YtannopdcbocngaaGreatDoor
namespace Go.Proofs.YtannopdcbocngaaGreatDoor
open Go Go.Abs
attribute [local irreducible] exK opsK opK gK forkK kr acall callOp owhen obind
theorem EvI.cut {e:Event} (h:EvI e):EvOk (cutEvN e):=⟨h.client,h.op.cut.1,h.ans.cut.1⟩
theorem fewN_ok {l:List Event} (h:∀e,e∈l→EvI e):(∀e,e∈fewN l→EvOk e)∧(fewN l).length≤20:=by
 refine ⟨fun e he=>?_,by simp [fewN]; omega⟩
 obtain ⟨x,hx,rfl⟩:=List.mem_map.1 he
 exact (h x (List.mem_of_mem_take hx)).cut
end Go.Proofs.YtannopdcbocngaaGreatDoor
namespace Go.Proofs.YtannopdcbocngaaGreatDoor
open Go Go.Abs
attribute [local irreducible] exK opsK opK gK forkK kr acall callOp owhen obind
theorem c11g (steps:List Step):acall tabT 11 [.slice .sh (steps.map eStep)] []=some (.bool (greatN steps),[]):=by
 by_cases h:steps.length≤100000
 ·exact c11 steps h
 ·refine acall_ex rfl rfl rfl ?_
  have hb:decide ((60:Int)<((steps.length:Nat):Int))=true:=by simp; omega
  have hg:greatN steps=true:=by unfold greatN; rw [hb]; rfl
  rw [hg]
  simp only [fn11,E11,List.length_map,hb,EVN,EVT,EVD,↓reduceIte,Nat.reduceEqDiff,reduceCtorEq,Nat.reduceAdd,Nat.reduceLeDiff,ne_eq,Nat.reduceLT,Int.reduceLT,Int.reduceLE,Int.reduceNeg]
theorem k11g (steps:List Step) (M:AMem):callOp (acall tabT) 11 [.slice .sh (steps.map eStep)] M=some (.bool (greatN steps),M):=callOp0 (c11g steps) rfl rfl rfl rfl rfl M
theorem GInv.tr {t:Tree} {dep:Int→Nat} (h:GInv t dep 0):TrOk2 t:=by
 obtain ⟨r,hr,hrk,_⟩:=h.root
 have hn:=h.nodes
 refine ⟨⟨by omega,h.nd,fun x hx=>?_,h.fin 12 1 r hr hrk (by rw [h.dep1])⟩,⟨r,hr⟩,fun i d e hf he=>?_,h.srt.asc⟩
 ·have hf:=find_of_mem h.srt.asc hx
  have:=h.nd x.ino
  rw [nodeN_some hf] at this
  exact this
 ·obtain ⟨_,_,_,_,m,hm,_⟩:=h.ent i d e hf he
  exact ⟨m,hm,h.ino hm⟩
def stepB (s:Step):Prop:=s.kind<256∧s.a<256∧s.b<256∧s.n<256∧s.m<256
theorem kT10 (M:AMem):callOp (acall tabT) 10 [] M=some (.bool true,M):=kT (kS10 M)
theorem c3 (o:Op) (a:Ans) (l:List Event) (m:List Step) (ho:OpI o) (ha:AnsI a) (hl:∀e,e∈l→EvI e) (hm:∀s,s∈m→stepB s) :
  acall tabT 3 [eOp .sh o,eAns .sh .sh a,.slice .sh (l.map eEv),.slice .sh (m.map eStep)] []=some (.bool true,[]):=by
 refine acall_ex rfl rfl rfl ?_
 have hg:=k11g m
 cases hgr:greatN m with
 |true =>
  rw [hgr] at hg
  simp only [fn3,E3,eOp,eOpC,eAns,eAnsC,kT10,hg,EVT,EVD,↓reduceIte,Nat.reduceEqDiff,reduceCtorEq,Nat.reduceAdd,Nat.reduceLeDiff,ne_eq,Nat.reduceLT,Int.reduceLT,Int.reduceLE,Int.reduceNeg]
 |false =>
  rw [hgr] at hg
  obtain ⟨hlen,hok⟩:=great_ok hgr hm
  have h14:=k14 m (by omega) hok
  obtain ⟨dep,hinv⟩:=madeN_inv m
  have htr:=hinv.tr
  generalize madeN m=T at *
  have h22:=k22 T htr
  have h23:=k23 T htr.ok
  have h12:=fun M=>kT (kS12 o M)
  have h13:=fun M=>kT (kS13 a M)
  have op:=ho.cut
  have aq:=ha.cut
  obtain ⟨p,hp⟩:∃p,cutOpN o=p:=⟨_,rfl⟩
  obtain ⟨q,hq⟩:∃q,cutAnsN a=q:=⟨_,rfl⟩
  rw [hp] at h12 op
  rw [hq] at h13 aq
  have h15:=fun M=>kT (kS15 p op.1 M)
  have h16:=fun M=>kT (k16 p op.1 M)
  have h17:=fun M=>kT (kS17 q aq.1 M)
  have h18:=fun M=>kT (k18 q aq.1 M)
  obtain ⟨fok,fl⟩:=fewN_ok hl
  have h20:=fun M=>kT (k20 l M)
  obtain ⟨f,hf⟩:∃f,fewN l=f:=⟨_,rfl⟩
  rw [hf] at h20 fok fl
  have h19:=fun M=>kT (kS19 f fok (by omega) M)
  have h21:=fun M=>kT (k21 f fok (by omega) M)
  simp only [eOp,eOpC,eAns,eAnsC,eTree,eTreeC] at h12 h13 h14 h15 h16 h17 h18 h22 h23
  have b1:(opN p==opN p)=true:=by simp
  have b2:(ansN q==ansN q)=true:=by simp
  have b3:(histN f==histN f)=true:=by simp
  have b4:(treeT T.nodes 12==treeT T.nodes 12)=true:=by simp
  simp only [fn3,E3,eOp,eOpC,eAns,eAnsC,kT10,hg,h12,h13,h14,EVT,EVD,↓reduceIte,Nat.reduceEqDiff,reduceCtorEq,Nat.reduceAdd,Nat.reduceLeDiff,ne_eq,Nat.reduceLT,Int.reduceLT,Int.reduceLE,Int.reduceNeg]
  simp (config:={ maxSteps:=1000000 }) only [E3,h15,h16,h17,h18,h19,h20,h21,h22,h23,b1,b2,b3,b4,EVT,EVD,↓reduceIte,Nat.reduceEqDiff,reduceCtorEq,Nat.reduceAdd,Nat.reduceLeDiff,ne_eq,Nat.reduceLT,Int.reduceLT,Int.reduceLE,Int.reduceNeg]
end Go.Proofs.YtannopdcbocngaaGreatDoor
namespace Go.Proofs.YtannopdcbocngaaGreatDoor
open Go Go.Abs Go.ChangeShapes Go.WideShapes Go.RowKit Go.Deep
section
variable {H:Type} {enc:TypeId×Value→H}
theorem u8n_rep {w:World} {fuel t:Nat} {v:Value} {x:DataW H×List MemPlace} (ht:Tryz.prog.underlying t=some (.int .u8)) (h:DataW.trod enc Tryz.prog w 0 (fun _=>true) true fuel t [v]=some x):∃n:Nat,n<256∧RepP w (SafW w) (.int .u8 n) v:=by
 obtain ⟨b,hb⟩:=u8_rep ht h
 exact ⟨b.toNat,b.toNat_lt,hb⟩
set_option maxRecDepth 100000 in
theorem step_rep {w:World} {fuel:Nat} {cs:List Value} {x:DataW H×List MemPlace} (h:DataW.trod enc Tryz.prog w 0 (fun _=>true) true fuel 74 cs=some x):∃o:Step,stepB o∧CellsRep w (eStepC o) cs:=by
 obtain ⟨xs,n,_,_,hl,hxl,hf⟩:=DataW.trod_struct Tryz.underlying74 h
 have h0:cs.length=6:=by rw [hl]; kernel_rfl
 match cs,h0 with
 | [v0,v1,v2,v3,v4,v5],_ =>
  match xs,hxl with
  | [y0,y1,y2,y3,y4,y5],_ =>
   have e0:DataW.trod enc Tryz.prog w 0 (fun _=>true) true n 5 ((List.drop 0 [v0,v1,v2,v3,v4,v5]).take (Tryz.prog.cellsOf 5))=some y0:=hf 0 _ rfl
   have e1:DataW.trod enc Tryz.prog w 0 (fun _=>true) true n 5 ((List.drop 1 [v0,v1,v2,v3,v4,v5]).take (Tryz.prog.cellsOf 5))=some y1:=hf 1 _ rfl
   have e2:DataW.trod enc Tryz.prog w 0 (fun _=>true) true n 5 ((List.drop 2 [v0,v1,v2,v3,v4,v5]).take (Tryz.prog.cellsOf 5))=some y2:=hf 2 _ rfl
   have e3:DataW.trod enc Tryz.prog w 0 (fun _=>true) true n 5 ((List.drop 3 [v0,v1,v2,v3,v4,v5]).take (Tryz.prog.cellsOf 5))=some y3:=hf 3 _ rfl
   have e4:DataW.trod enc Tryz.prog w 0 (fun _=>true) true n 5 ((List.drop 4 [v0,v1,v2,v3,v4,v5]).take (Tryz.prog.cellsOf 5))=some y4:=hf 4 _ rfl
   have e5:DataW.trod enc Tryz.prog w 0 (fun _=>true) true n 22 ((List.drop 5 [v0,v1,v2,v3,v4,v5]).take (Tryz.prog.cellsOf 22))=some y5:=hf 5 _ rfl
   rw [c_one.2.2.2.1] at e0 e1 e2 e3 e4
   rw [c_one.2.2.2.2.1] at e5
   obtain ⟨a0,i0,r0⟩:=u8n_rep (v:=v0) u_u8 e0
   obtain ⟨a1,i1,r1⟩:=u8n_rep (v:=v1) u_u8 e1
   obtain ⟨a2,i2,r2⟩:=u8n_rep (v:=v2) u_u8 e2
   obtain ⟨a3,i3,r3⟩:=u8n_rep (v:=v3) u_u8 e3
   obtain ⟨a4,i4,r4⟩:=u8n_rep (v:=v4) u_u8 e4
   obtain ⟨a5,r5⟩:=bytes_rep (v:=v5) u_bytes u_u8 c_one.2.2.2.1 e5
   exact ⟨⟨a0,a1,a2,a3,a4,a5⟩,⟨i0,i1,i2,i3,i4⟩,(CellsRep.app (.one r0) (CellsRep.app (.one r1) (CellsRep.app (.one r2) (CellsRep.app (.one r3) (CellsRep.app (.one r4) (.one r5))))))⟩
theorem u_steps:Tryz.prog.underlying 30=some (.slice 74):=by kernel_rfl
theorem c_step:Tryz.prog.cellsOf 74=6:=by kernel_rfl
set_option maxRecDepth 100000 in
theorem steps_val {w:World} {r:Reach} {b:Nat} {v:Value} {d:DataW H} {ps:List MemPlace} (h:DataW.Trod enc Tryz.prog w 0 (fun _=>true) true 30 v d ps) (hv:Value.okWide Tryz.prog w r b 30 v):∃l:List Step,(∀e,e∈l→stepB e)∧Rep jX0 [] w (.slice .sh (l.map eStep)) v:=by
 obtain ⟨a,len,cap,rfl⟩:=okWide_slice u_steps hv
 obtain ⟨fuel,hf⟩:=h
 obtain ⟨l,h1,h2⟩:=rows_rep (eC:=eStepC) (mk:=eStep) (P:=stepB) u_steps c_step (by omega) (fun _=>rfl) (fun _=>rfl) (fun n cs y _ hy=>step_rep hy) hf
 exact ⟨l,h1,.plain h2⟩
end
end Go.Proofs.YtannopdcbocngaaGreatDoor
namespace Go.Proofs.YtannopdcbocngaaGreatDoor
open Go Go.Abs Go.ChangeShapes Go.WideShapes Go.ChangeAt Go.RowKit Go.Lib
theorem reportTells_witness (os:Os) {H:Type} (enc:TypeId×Value→H) :
  (OpenSpec.ofChange Rows.reportTellsSpec).preRow enc Tryz.prog Tryz.f3 Rows.reportTellsRow.domain false Rows.reportTellsRow.laid ((laidWorld os).forCall (fun _ _=>0) ⟨#[],#[.agg #[.int .i64 0,.int .i64 0,.string ⟨#[]⟩,.string ⟨#[]⟩,.int .i64 0,.int .i64 0,.int .i64 0,.slice none 0 0],.agg #[.int .i64 0,.int .i64 0,.int .i64 0,.int .i64 0,.int .i64 0,.slice none 0 0,.slice none 0 0],.slice none 0 0,.slice none 0 0],[]⟩).memory #[.agg #[.int .i64 0,.int .i64 0,.string ⟨#[]⟩,.string ⟨#[]⟩,.int .i64 0,.int .i64 0,.int .i64 0,.slice none 0 0],.agg #[.int .i64 0,.int .i64 0,.int .i64 0,.int .i64 0,.int .i64 0,.slice none 0 0,.slice none 0 0],.slice none 0 0,.slice none 0 0]:=by
 have hw:(DataW.whole enc Tryz.prog ((laidWorld os).forCall (fun _ _=>0) ⟨#[],#[.agg #[.int .i64 0,.int .i64 0,.string ⟨#[]⟩,.string ⟨#[]⟩,.int .i64 0,.int .i64 0,.int .i64 0,.slice none 0 0],.agg #[.int .i64 0,.int .i64 0,.int .i64 0,.int .i64 0,.int .i64 0,.slice none 0 0,.slice none 0 0],.slice none 0 0,.slice none 0 0],[]⟩).memory Tryz.f3.params.toList (OpenSpec.ofChange Rows.reportTellsSpec).vars false (#[.agg #[.int .i64 0,.int .i64 0,.string ⟨#[]⟩,.string ⟨#[]⟩,.int .i64 0,.int .i64 0,.int .i64 0,.slice none 0 0],.agg #[.int .i64 0,.int .i64 0,.int .i64 0,.int .i64 0,.int .i64 0,.slice none 0 0,.slice none 0 0],.slice none 0 0,.slice none 0 0]:Array Value).toList 8).map (fun x=>(x.1,x.2.1)) =
   some ([.agg [.lit (.int .i64 0),.lit (.int .i64 0),.lit (.string []),.lit (.string []),.lit (.int .i64 0),.lit (.int .i64 0),.lit (.int .i64 0),.nil],.agg [.lit (.int .i64 0),.lit (.int .i64 0),.lit (.int .i64 0),.lit (.int .i64 0),.lit (.int .i64 0),.nil,.nil],.nil,.nil],[]):=by kernel_rfl
 obtain ⟨⟨x1,x2,x3⟩,hx,hx1⟩:=Option.map_eq_some_iff.1 hw
 simp only [Prod.mk.injEq] at hx1
 obtain ⟨rfl,rfl⟩:=hx1
 exact OpenSpec.preRow_of_cond 8 hx (by kernel_rfl) (fun k hk=>by cases hk) (by kernel_rfl) (laid_met os _)
theorem reportTells_law:∀(x0:Op) (x1:Ans) (x2:List Event) (x3:List Step),OpI x0→AnsI x1→(∀e,e∈x2→EvI e)→(∀s,s∈x3→stepB s)→acall tabT 3 [eOp .sh x0,eAns .sh .sh x1,.slice .sh (x2.map eEv),.slice .sh (x3.map eStep)] []=some (.bool true,[]):=fun x0 x1 x2 x3=>c3 x0 x1 x2 x3
set_option maxRecDepth 100000 in
set_option maxHeartbeats 2000000 in
theorem reportTells_lifted (os:Os) (started:os.Started) (H:Type) (enc:TypeId×Value→H) (F:Stop.Interp) :
  ReturnsInHanded {} Tryz.checked os 3 .any ((OpenSpec.ofChange Rows.reportTellsSpec).preRow enc Tryz.prog Tryz.f3 Rows.reportTellsRow.domain false Rows.reportTellsRow.laid)
   (((OpenSpec.ofChange Rows.reportTellsSpec).at F).post enc Tryz.prog Tryz.f3 false Rows.reportTellsRow.fresh Rows.reportTellsRow.handsOn Rows.reportTellsRow.again):=by
 refine returnsInHanded_of_row (C:=Tryz.checked) (s:=OpenSpec.ofChange Rows.reportTellsSpec) ownK started (by kernel_rfl) Tryz.func3
  (witness_row_atRef (enc:=enc) (C:=Tryz.checked) false (laidWorld os) #[.agg #[.int .i64 0,.int .i64 0,.string ⟨#[]⟩,.string ⟨#[]⟩,.int .i64 0,.int .i64 0,.int .i64 0,.slice none 0 0],.agg #[.int .i64 0,.int .i64 0,.int .i64 0,.int .i64 0,.int .i64 0,.slice none 0 0,.slice none 0 0],.slice none 0 0,.slice none 0 0] rfl (by kernel_rfl) (by kernel_rfl) (by kernel_rfl) (reportTells_witness os enc)) ?_
 intro W base args ds gs before hval0 hW _ _ _ hL hsh _
 have hval:∀(j:Nat) t v,Tryz.f3.params[j]?=some t→args[j]?=some v→Value.okWide Tryz.prog W .any base t v:=hval0
 have hW':=hW
 have hlt0:=hW.lt
 obtain ⟨p,q,hA0,hV0,rfl,_,_⟩:=hW
 have hA:DataW.TrodAll enc Tryz.prog W 0 (fun _=>true) true Tryz.f3.params.toList args.toList ds p:=hA0
 have hpar:Tryz.f3.params = #[24,28,29,30]:=rfl
 have u4:Tryz.prog.underlying 4=some .bool:=by kernel_rfl
 have hA1:=hA
 rw [hpar] at hA hval
 obtain ⟨v0,vs1,d0,ds1,p0,q0,hvs0,rfl,rfl,h0,hA⟩:=trodAll_cons hA
 obtain ⟨v1,vs2,d1,ds2,p1,q1,rfl,rfl,rfl,h1,hA⟩:=trodAll_cons hA
 obtain ⟨v2,vs3,d2,ds3,p2,q2,rfl,rfl,rfl,h2,hA⟩:=trodAll_cons hA
 obtain ⟨v3,vs4,d3,ds4,p3,q3,rfl,rfl,rfl,h3,hA⟩:=trodAll_cons hA
 obtain ⟨rfl,rfl,rfl⟩:=trodAll_nil hA
 obtain rfl:=two_of hvs0
 obtain ⟨rfl,rfl⟩:=trodVars_none hV0
 obtain ⟨m0,l0,r0⟩:=op_val h0 (hval 0 24 _ rfl rfl)
 obtain ⟨m1,l1,r1⟩:=ans_val h1 (hval 1 28 _ rfl rfl)
 obtain ⟨m2,l2,r2⟩:=evs_val h2 (hval 2 29 _ rfl rfl)
 obtain ⟨m3,l3,r3⟩:=steps_val h3 (hval 3 30 _ rfl rfl)
 have hlt:∀x∈(p0++(p1++(p2++(p3++([])))):List MemPlace),x.block<W.heap.size:=fun x hx=>hlt0 x (by simpa using hx)
 refine (true_calls soundT (reportTells_law m0 m1 m2 m3 l0 l1 l2 l3) W (globL hL hsh) _ rfl ?_).mono ?_
 ·intro i c v hc hv
  match i with
  |0=>cases hc; cases hv; exact r0
  |1=>cases hc; cases hv; exact r1
  |2=>cases hc; cases hv; exact r2
  |3=>cases hc; cases hv; exact r3
  |i+4=>cases hc
 ·rintro e W' ⟨rfl,hb⟩
  exact ⟨_,rfl,⟨_,_,_,[],_,[],hW',trodAll_mk1 (shut_bool u4 true),trodAll_stays hb hA1 (by rw [hpar]; intro t ht; simp at ht; rcases ht with rfl|rfl|rfl|rfl<;>exact ⟨by kernel_rfl,of_decide_eq_true (by kernel_rfl)⟩) hlt,rfl,hb.frame _,fun h=>by cases h⟩⟩
theorem reportTells_row:Rows.ReportTellsSaid :=
 OpenClaim.holds_of_cond 3 Tryz.f3 rfl rfl rfl rfl rfl rfl rfl ⟨rfl,rfl,rfl,rfl,rfl⟩ rfl rfl rfl rfl rfl (by kernel_rfl) Tryz.func3 (by kernel_rfl)
  (of_decide_eq_true (by kernel_rfl)) (by unfold Func.isWrapper; rw [if_neg (of_decide_eq_false (by kernel_rfl))]; exact ⟨rfl,rfl⟩)
  (fun os started H enc _ F0=>by rw [OpenClaim.pre_eq_preRow]; exact reportTells_lifted os started H enc F0)
theorem reportTells_card:Rows.ReportTellsCardSaid :=
 Claim7.holds_tied_plain_at .later [] [.data,.data,.data,.data,.sentinel,.sentinel,.data,.pinned] true (true,"6ab42aecae4c7621001a14ab3450ecf26b822058164905cd807fd0cc9b42dd19") true
  reportTells_row (fun _ h=>by cases h) (by kernel_rfl) (fun _ h=>by cases h) reportTells_row_tie rfl ⟨rfl,rfl⟩ (by kernel_rfl) rfl
  (fun f fn hf hfn=>by
   obtain rfl:f=3:=Option.some.inj ((show Tryz.prog.funcNamed Tryz.f3.name=some 3 by kernel_rfl).symm.trans hf) |>.symm
   obtain rfl:fn=Tryz.f3:=(Option.some.inj (Tryz.func3.symm.trans hfn)).symm
   exact ⟨by kernel_rfl,fun j t ht=>by
    have hw:∀t,t∈Tryz.f3.params.toList→Tryz.prog.wantsStandIn t=false:=by
     rw [show Tryz.f3.params.toList=[24,28,29,30] from rfl]
     intro t ht
     simp at ht
     rcases ht with rfl|rfl|rfl|rfl<;>kernel_rfl
    exact hw t (by simpa using Array.mem_of_getElem? ht)⟩)
  (by kernel_rfl)
end Go.Proofs.YtannopdcbocngaaGreatDoor
