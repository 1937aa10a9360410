import Derived.Test.YtahkjijkflobhaaGreatDoorFseC
set_option linter.unusedSimpArgs false
set_option linter.unusedVariables false
set_option linter.unusedSectionVars false
set_option linter.defProp false
namespace Go.Proofs.YtahkjijkflobhaaGreatDoor
open Go Go.Abs
section
attribute [local irreducible] bS cz fu gK bG kr ag ar aQ aG
def jq:∀a:Bytes,strLt a a=false
 | []=>rfl
 |a::x=>by simp[strLt,jq x,UInt8.lt_irrefl]
def ph:∀ {a b c:Bytes},strLt a b=true->strLt b c=true->strLt a c=true
 | [],b,[],_,h2=>by cases b<;>simp[strLt] at h2
 | [],_,_::_,_,_=>rfl
 |_::_,[],_,h1,_=>by simp[strLt] at h1
 |_::_,_::_,[],_,h2=>by simp[strLt] at h2
 |a::x,b::y,c::z,h1,h2=>by
  simp only[strLt,Bool.or_eq_true,Bool.and_eq_true,decide_eq_true_eq,beq_iff_eq] at h1 h2 ⊢;simp only[UInt8.lt_iff_toNat_lt] at h1 h2 ⊢;rcases h1 with h1|⟨h1,h1'⟩
  ·rcases h2 with h2|⟨h2,_⟩
   ·left; omega
   ·left; rw[<-h2]; exact h1
  ·rcases h2 with h2|⟨h2,h2'⟩
   ·left; rw[h1]; exact h2
   ·right; exact⟨h1.trans h2,ph h1' h2'⟩
def jQ{l:List ct}(h:ja l)(s:Bytes):Ap l s (fa l s):=by
 unfold fa;induction l with
 |nil=>exact⟨by simp,fun h n hn=>by simp at hn⟩
 |cons a r ih =>
  obtain⟨h1,h2⟩:=List.pairwise_cons.1 h;obtain⟨i1,i2⟩:=ih h2
  by_cases ha:strLt a.name s=true
  ·rw[List.takeWhile_cons,if_pos ha];refine⟨by simpa using i1,fun k n hn=>?_⟩
   cases k with
   |zero=>simp at hn; subst hn; simp[ha]
   |succ k=>rw[i2 k n (by simpa using hn)]; simp
  ·rw[List.takeWhile_cons,if_neg ha];refine⟨by simp,fun k n hn=>?_⟩
   simp only[List.length_nil,Nat.not_lt_zero,iff_false];cases k with
   |zero=>simp at hn; subst hn; exact ha
   |succ k=>exact fun hc=>ha (ph (h1 n (List.mem_of_getElem? (by simpa using hn))) hc)
def dH{l:List ct}{s:Bytes}{e:ct}(h:cB l s=some e):e∈l/\e.name=s:=by
 unfold cB at h;exact⟨List.mem_of_find?_eq_some h,by simpa using List.find?_some h⟩
def oD{l:List ct}(h:ja l)(s:Bytes):(sb l s (fa l s)=true/\∃n,l[fa l s]?=some n/\cB l s=some n/\n.name=s)\/(sb l s (fa l s)=false/\cB l s=none):=by
 obtain⟨l1,l2⟩:=jQ h s;cases hf:cB l s with
 |some n =>
  left;obtain⟨hm,he⟩:=dH hf;obtain⟨k,hk⟩:=List.getElem?_of_mem hm;have hkb:¬k<fa l s:=fun hc=>by have:=(l2 k n hk).2 hc; rw[he,jq] at this; cases this
  have hb:fa l s<l.length:=by have:=(List.getElem?_eq_some_iff.1 hk).1; omega
  have hx:=List.getElem?_eq_getElem hb;have hnl:¬strLt l[fa l s].name s=true:=fun hc=>Nat.lt_irrefl _ ((l2 _ _ hx).1 hc)
  have hke:k=fa l s:=by
   rcases Nat.lt_or_ge (fa l s) k with hlt|hge
   ·have hkl:=(List.getElem?_eq_some_iff.1 hk).1;have h3:=List.pairwise_iff_getElem.1 h _ _ hb hkl hlt;have h4:l[k]=n:=by rw[List.getElem?_eq_getElem hkl] at hk; injection hk
    rw[h4,he] at h3;exact absurd h3 hnl
   ·omega
  subst hke;exact⟨by unfold sb; rw[hk]; simp[he],n,hk,rfl,he⟩
 |none =>
  right;refine⟨?_,rfl⟩;unfold sb;split
  ·rename_i n hn;have:=List.find?_eq_none.1 hf n (List.mem_of_getElem? hn);simpa using this
  ·rfl
structure jv(t:Tree):Prop where
 hV:gr t.nodes
 av:∀n,n∈t.nodes->ja n.av
def jv.dir{t:Tree}(h:jv t)(ino:Int):ja (cK t.nodes ino).1.av:=by
 unfold cK;split
 ·exact List.Pairwise.nil
 ·rename_i n hn;split
  ·exact h.av n (bh hn).1
  ·exact List.Pairwise.nil
def ajb(t:Tree)(ino:Int)(s:Bytes)(ht:Small t)(hr:jv t)(hs:s.length<=100000)(ha:gu s):ag aH 130 [aA t,.int .i64 ino,.str s] []=some (.tuple [.int .i64 (bM t.nodes ino s).1,.int .i64 (bM t.nodes ino s).2],[]):=by
 obtain⟨nodes,next,af⟩:=t
 have hn:nodes.length<=100000:=ht.nodes;have hd:(cK nodes ino).1.av.length<=100000:=kU ht ino;have hE:ja (cK nodes ino).1.av:=hr.dir ino;have hk:=fun b M=>RO nodes next af ino hr.hV hn 1 (b :: .cells [au nodes,.int .i64 next,.int .i64 af]::M) rfl
 refine ai ?_;simp only[JL,CP,aA,ak,hk,aF,an,EN,simprocAttr];unfold bM;refine aB (fun hb=>?_) (fun hb=>?_)
 ·simp only[CP,EN,simprocAttr];clear hk;simp_all
 ·simp only[CP,Xn,hs,ha,EN,simprocAttr];refine aB (fun hb'=>?_) (fun hb'=>?_)
  ·simp only[CP,EN,simprocAttr];clear hk;simp_all
  ·have hk2:=fun a b c d u M=>LC a b c d (cK nodes ino).1.av u s _ (jQ hE s) hd M
   simp only[CP,hk2,EN,simprocAttr];rcases oD hE s with ⟨h1,e,h2,h3,_⟩|⟨h1,h2⟩
   ·simp only[CP,h1,h2,bU,EN,simprocAttr];clear hk hk2;simp_all
   ·simp only[CP,h1,EN,simprocAttr];clear hk hk2;simp_all
def RH(nodes:List Node)(next af ino:Int)(s:Bytes)(ht:Small ⟨nodes,next,af⟩)(hr:jv ⟨nodes,next,af⟩)(hs:s.length<=100000)(ha:gu s)(M:aj):ar (ag aH) 130 [.agg [au nodes,.int .i64 next,.int .i64 af],.int .i64 ino,.str s] M =
  some (.tuple [.int .i64 (bM nodes ino s).1,.int .i64 (bM nodes ino s).2],M):=cO (ajb ⟨nodes,next,af⟩ ino s ht hr hs ha) M
def c86(t:Tree)(ino:Int)(ht:Small t)(hr:jv t):ag aH 86 [aA t,.int .i64 ino] []=some (.tuple [aF (aD t.nodes ino),.bool (find t.nodes ino).isSome],[]):=by
 obtain⟨nodes,next,af⟩:=t
 have hn:nodes.length<=100000:=ht.nodes;have hk:=fun b c M=>xF nodes next af ino hr.hV hn 2 (b::c :: .cells [au nodes,.int .i64 next,.int .i64 af]::M) rfl
 refine ai ?_;simp only[WT,E86,aA,ak,hk,aF,an,EN,simprocAttr]
abbrev fF(n:Int):ae := .int .i64 n
def lR(l:List Int):wid (l.map fF) 1=True:=by
 simp only[eq_iff_iff,iff_true];intro x hx;obtain⟨n,_,rfl⟩:=List.mem_map.1 hx;rfl
def lP(nodes:List Node):Nat->Int->List Int->List Int
 |0,_,out=>out
 |m+1,ino,out=>if (ino != 1)=true then (if (!(find nodes ino).isSome||(aD nodes ino).kind != 2)=true then out else lP nodes m (aD nodes ino).up (out++[(aD nodes ino).up])) else out
def kP(nodes:List Node)(ino:Int):List Int:=lP nodes nodes.length ino [ino]
def S5{nodes:List Node}{next af:Int}(h:gr nodes)(hn:nodes.length<=100000){k:List K}{R:List Int->Option (ae×aj)}
  (hx:∀(out:List Int) v q,kr (ag aH) [.tmp 4] 1 k ⟨.exit 0,[(0,.ptr 0 0),(1,v),(5,.slice (.own 1) (out.map fF)),(22,q)],[.cells [au nodes,.int .i64 next,.int .i64 af],.tick 1 out.length]⟩=R out)
  (hr:∀(out:List Int) b,kr (ag aH) [.tmp 4] 1 k ⟨.ret,[(4,.slice (.own 1) (out.map fF))],[.cells [au nodes,.int .i64 next,.int .i64 af],.tick 1 out.length,b]⟩=R out) :
  ∀(m:Nat)(ino:Int)(out:List Int),out.length+m=nodes.length+1->bS (ag aH) [.tmp 4] 1 k (.loop [0,1,5] Sm) [(0,.ptr 0 0),(1,.int .i64 ino),(5,.slice (.own 1) (out.map fF))] [.cells [au nodes,.int .i64 next,.int .i64 af],.tick 1 out.length]=R (lP nodes m ino out):=by
 intro m;induction m with
 |zero =>
  intro ino out ho;rw[aC];have hd':((out.length:Int)<=(nodes.length:Int))=False:=by simp; omega
  simp only[va,EN,simprocAttr]
  repeat' ((first|refine aB (fun hb=>?_) (fun hb=>?_)|refine aJ (fun hb=>?_) (fun hb=>?_)|refine bp (fun hb=>?_) (fun hb=>?_))<;>simp only[hb,EN,va,hd',simprocAttr])
  all_goals exact hx _ _ _
 |succ m ih =>
  intro ino out ho;rw[aC];have hd':((out.length:Int)<=(nodes.length:Int))=True:=by simp; omega
  have r1:aP (out.length+1) 8=True:=jx;have hk:=fun M=>xF nodes next af ino h hn 0 (.cells [au nodes,.int .i64 next,.int .i64 af]::M) rfl
  have hi:=ih (aD nodes ino).up (out++[(aD nodes ino).up]) (by simp; omega)
  simp only[List.map_append,List.map_cons,List.map_nil,List.length_append,List.length_cons,List.length_nil,Nat.zero_add] at hi;rw[lP];simp only[va,EN,simprocAttr];refine aJ (fun hb=>?_) (fun hb=>?_)
  ·simp only[va,hb,hd',hk,aF,an,EN,simprocAttr];refine aJ (fun hb1=>?_) (fun hb1=>?_)
   ·simp only[va,hb1,EN,simprocAttr];refine aB (fun hb2=>?_) (fun hb2=>?_)
    ·simp only[va,hb2,hb1,Bool.or_true,Bool.false_or,EN,simprocAttr];exact hr _ _
    ·simp only[va,hb2,hb1,r1,lR,Bool.or_false,Bool.false_eq_true,EN,simprocAttr];exact hi
   ·simp only[va,hb1,Bool.true_or,EN,simprocAttr];exact hr _ _
  ·simp only[va,hb,Bool.false_eq_true,EN,simprocAttr];exact hx _ _ _
def aka(nodes:List Node)(next af ino:Int)(h:gr nodes)(hn:nodes.length<=100000):ag aH 209 [.ptr 0 0,.int .i64 ino] [.cells [au nodes,.int .i64 next,.int .i64 af]] =
  some (.slice .sh ((kP nodes ino).map fF),[.cells [au nodes,.int .i64 next,.int .i64 af]]):=by
 refine ai ?_;simp only[KA,va,EN,simprocAttr];exact S5 (R:=fun out=>some (.slice .sh (out.map fF),[.cells [au nodes,.int .i64 next,.int .i64 af]])) h hn (fun out v q=>by simp only[va,EN,simprocAttr]) (fun out b=>by simp only[va,EN,simprocAttr]) nodes.length ino [ino] (by simp; omega)
def Xo(nodes:List Node)(next af ino:Int)(h:gr nodes)(hn:nodes.length<=100000)(p:Nat)(M:aj)(hM:nth M p=some (.cells [au nodes,.int .i64 next,.int .i64 af])) :
  ar (ag aH) 209 [.ptr p 0,.int .i64 ino] M=some (.slice .sh ((kP nodes ino).map fF),M):=by
 have:=gj hM (aka nodes next af ino h hn) rfl rfl rfl rfl rfl rfl rfl rfl rfl rfl
 rwa[gN hM] at this
def pQ(nodes:List Node):∀(m:Nat)(ino:Int)(out:List Int),out.length<=(lP nodes m ino out).length/\(lP nodes m ino out).length<=out.length+m
 |0,_,out=>⟨Nat.le_refl _,Nat.le_refl _⟩
 |m+1,ino,out=>by
  rw[lP];split
  ·split
   ·exact⟨Nat.le_refl _,by omega⟩
   ·have:=pQ nodes m (aD nodes ino).up (out++[(aD nodes ino).up]);simp at this;omega
  ·exact⟨Nat.le_refl _,by omega⟩
def lQ(nodes:List Node)(ino:Int):1<=(kP nodes ino).length/\(kP nodes ino).length<=nodes.length+1:=by
 have:=pQ nodes nodes.length ino [ino];simp at this;unfold kP;omega
def akB(nodes:List Node)(next af ino:Int)(h:gr nodes)(hn:nodes.length<=100000):ag aH 254 [.ptr 0 0,.int .i64 ino] [.cells [au nodes,.int .i64 next,.int .i64 af]] =
  some (.int .i64 (((kP nodes ino).length-1:Nat):Int),[.cells [au nodes,.int .i64 next,.int .i64 af]]):=by
 refine ai ?_;have hk:=fun M=>Xo nodes next af ino h hn 0 (.cells [au nodes,.int .i64 next,.int .i64 af]::M) rfl
 have hl:=lQ nodes ino;have hw:IntKind.i64.wrap (((kP nodes ino).length:Int)-1)=(((kP nodes ino).length-1:Nat):Int):=by rw[cL (by omega) (by omega)]; omega
 simp only[K1,ain,hk,hw,EN,simprocAttr]
def aer(nodes:List Node)(next af ino:Int)(h:gr nodes)(hn:nodes.length<=100000)(p:Nat)(M:aj)(hM:nth M p=some (.cells [au nodes,.int .i64 next,.int .i64 af])) :
  ar (ag aH) 254 [.ptr p 0,.int .i64 ino] M=some (.int .i64 (((kP nodes ino).length-1:Nat):Int),M):=by
 have:=gj hM (akB nodes next af ino h hn) rfl rfl rfl rfl rfl rfl rfl rfl rfl rfl
 rwa[gN hM] at this
def uw(n:Node)(rest:List Node):∀(pre out:List Node),(∀m,m∈pre->m.ino<n.ino)->gi n (pre++rest) out false=gi n rest (out++pre) false
 | [],out,_=>by simp
 |m::r,out,h=>by
  have hm:=h m (List.mem_cons_self ..);have h1:¬n.ino<=m.ino:=by omega
  have h2:¬m.ino=n.ino:=by omega
  rw[List.cons_append,gi];simp only[ge_iff_le,h1,h2,decide_false,Bool.and_false,Bool.or_false,Bool.false_eq_true,if_false];rw[uw n rest r _ fun x hx=>h x (List.mem_cons_of_mem _ hx)]
  simp
def rC(n:Node):∀(rest out:List Node),(∀m,m∈rest->n.ino<m.ino)->gi n rest out true=(out++rest,true)
 | [],out,_=>by simp[gi]
 |m::r,out,h=>by
  have hm:=h m (List.mem_cons_self ..);have h2:¬m.ino=n.ino:=by omega
  rw[gi];simp only[Bool.not_true,Bool.false_and,h2,Bool.true_or,Bool.false_eq_true,if_false];rw[rC n r _ fun x hx=>h x (List.mem_cons_of_mem _ hx)]
  simp
def nt{nodes:List Node}{ino:Int}{b:Nat}(h:Gl nodes ino b):∀m,m∈nodes.take b->m.ino<ino:=fun m hm=>by
 obtain⟨k,hk⟩:=List.getElem?_of_mem hm;rw[List.getElem?_take] at hk;split at hk
 ·rename_i hlt; exact(h.lt k m hk).2 hlt
 ·cases hk
def xY{nodes:List Node}{ino:Int}{b:Nat}(h:Gl nodes ino b):∀m,m∈nodes.drop b->ino<=m.ino:=fun m hm=>by
 obtain⟨k,hk⟩:=List.getElem?_of_mem hm;rw[List.getElem?_drop] at hk;have:=h.lt _ m hk;have hn:¬b+k<b:=by omega
 have:=fun hc=>hn (this.1 hc)
 omega
def pR{nodes:List Node}(h:gr nodes){n:Node}(hf:find nodes n.ino=none):bJ nodes n=nodes.take (eO nodes n.ino)++n::nodes.drop (eO nodes n.ino):=by
 have hl:=mg h n.ino
 have hd:∀m,m∈nodes.drop (eO nodes n.ino)->n.ino<m.ino:=fun m hm=>by
  have h1:=xY hl m hm;have h2:=List.find?_eq_none.1 hf m (List.mem_of_mem_drop hm);have:¬m.ino=n.ino:=by simpa using h2
  omega
 unfold bJ;rw[show gi n nodes [] false=gi n (nodes.take (eO nodes n.ino)++nodes.drop (eO nodes n.ino)) [] false by rw[List.take_append_drop]]
 rw[uw n _ _ _ (nt hl)];generalize nodes.drop (eO nodes n.ino)=rest at hd;cases rest with
 |nil=>simp[gi]
 |cons m r =>
  have hm:=hd m (List.mem_cons_self ..);have h1:n.ino<=m.ino:=by omega
  have h2:¬m.ino=n.ino:=by omega
  rw[gi];simp only[ge_iff_le,h1,h2,decide_true,Bool.not_false,Bool.and_true,Bool.or_true,if_true,if_false];rw[rC n r _ fun x hx=>hd x (List.mem_cons_of_mem _ hx)]
  simp
def kX{nodes:List Node}(h:gr nodes){n o:Node}(ho:nodes[eO nodes n.ino]?=some o)(he:o.ino=n.ino):bJ nodes n=nodes.set (eO nodes n.ino) n:=by
 have hl:=mg h n.ino;have hlt:=(List.getElem?_eq_some_iff.1 ho).1
 have hdr:nodes.drop (eO nodes n.ino)=o::nodes.drop (eO nodes n.ino+1):=by
  rw[List.drop_eq_getElem_cons hlt];rw[List.getElem?_eq_getElem hlt] at ho; injection ho with ho; rw[ho]
 have hd:∀m,m∈nodes.drop (eO nodes n.ino+1)->n.ino<m.ino:=fun m hm=>by
  obtain⟨k,hk⟩:=List.getElem?_of_mem hm;rw[List.getElem?_drop] at hk;have hkl:=(List.getElem?_eq_some_iff.1 hk).1;have h3:=List.pairwise_iff_getElem.1 h _ _ hlt hkl (by omega)
  have h4:nodes[eO nodes n.ino+1+k]=m:=by rw[List.getElem?_eq_getElem hkl] at hk; injection hk
  have h5:nodes[eO nodes n.ino]=o:=by rw[List.getElem?_eq_getElem hlt] at ho; injection ho
  rw[h4,h5] at h3;omega
 unfold bJ;rw[show gi n nodes [] false=gi n (nodes.take (eO nodes n.ino)++nodes.drop (eO nodes n.ino)) [] false by rw[List.take_append_drop]]
 rw[uw n _ _ _ (nt hl),hdr,gi];simp only[ge_iff_le,he,Int.le_refl,decide_true,Bool.not_false,Bool.and_true,Bool.or_true,if_true,List.append_nil];rw[rC n _ _ hd,List.set_eq_take_append_cons_drop,if_pos hlt];simp
def p85{nodes:List Node}(h0:nodes≠[])(hn:nodes.length<=100000)(M:aj):ag aH 255 [au nodes] M=some (.aW M.length 0 6 0 nodes.length,M++[.arr 6 0 (nodes.map aF)]):=by
 refine bR (g:=fq 6 80) rfl ?_;obtain⟨a,r,rfl⟩:=List.exists_cons_of_ne_nil h0;have hw:wid ((a::r).map aF) 6:=by have:=yV (a::r); simpa using this
 have hr:aP ((a::r).map aF).length 80:=by have:=jn (a:=(a::r).length) (b:=80) (by omega) (by omega); simpa using this
 unfold fq;simp only[List.map_cons] at hw hr ⊢;rw[bo ⟨hw,hr⟩];simp
def p86{nodes:List Node}{b:Nat}(hb:b<=nodes.length)(hn:nodes.length<=100000)(n:Node)(c0 c1:aM) :
  ag aH 256 [.aW 2 0 6 0 nodes.length,.int .i64 b,.slice .sh [.agg (an n)]] [c0,c1,.arr 6 0 (nodes.map aF)]=some (.aW 2 1 6 0 (nodes.length+1),[c0,c1,.arr 6 1 ((nodes.take b++n::nodes.drop b).map aF)]):=by
 refine bR (g:=eD 6 80) rfl ?_;have hr:aP ((nodes.map aF).length+1) 80:=by have:=jn (a:=nodes.length+1) (b:=80) (by omega) (by omega); simpa using this
 unfold eD;simp only[nth];rw[bo ⟨trivial,trivial,trivial,by simp,by omega,by simpa using hb,rfl,hr⟩]
 simp[dA,aF]
def P7(nodes:List Node)(b:Nat)(o n:Node)(h:nodes[b]?=some o):(dA (nodes.map aF) b (putCells (aF o) 0 (an n)))=(nodes.set b n).map aF:=by
 have:putCells (aF o) 0 (an n)=aF n:=rfl;rw[this,cG,List.map_set]
def aj0(nodes:List Node)(next af:Int)(n:Node)(h:gr nodes)(h0:nodes≠[])(hn:nodes.length<=100000):ag aH 197 [.ptr 0 0,aF n] [.cells [au nodes,.int .i64 next,.int .i64 af]] =
  some (.tuple [],[.cells [au (bJ nodes n),.int .i64 next,.int .i64 af]]):=by
 refine ai ?_;have hk:=fun M=>Xp nodes next af n.ino h hn 0 (.cells [au nodes,.int .i64 next,.int .i64 af]::M) rfl
 have hp:=fun M=>p85 h0 hn M
 have hle:=(mg h n.ino).le;simp only[Kr,Vy,aF,an,hk,hp,EN,simprocAttr];rcases ky h n.ino with ⟨h1,o,h2,h3,h4⟩|⟨h1,h2⟩
 ·have hlt:((eO nodes n.ino:Int)<(nodes.length:Int))=True:=by have:=(List.getElem?_eq_some_iff.1 h2).1; simp; omega
  simp only[Vy,h1,h2,hlt,Nat.sub_zero,List.getElem?_cons_zero,List.getElem?_cons_succ,EN,simprocAttr];have e:=P7 nodes _ o n h2;simp only[an] at e;rw[e,kX h h2 h4,List.take_of_length_le (by simp)]
 ·have hi:=fun c0 c1=>p86 hle hn n c0 c1
  simp only[an] at hi;simp only[Vy,h1,hi,List.getElem?_cons_zero,List.getElem?_cons_succ,EN,simprocAttr];rw[pR h h2,List.take_of_length_le (by simp; omega)]
def DX(nodes:List Node)(next af a b c:Int)(d:Bytes)(e:List ct)(u:Int)(h:gr nodes)(h0:nodes≠[])(hn:nodes.length<=100000)(p:Nat)(M:aj)(hM:nth M p=some (.cells [au nodes,.int .i64 next,.int .i64 af])) :
  ar (ag aH) 197 [.ptr p 0,.agg [.int .i64 a,.int .i64 b,.int .i64 c,bc d,cT e,.int .i64 u]] M=some (.tuple [],dA M p (.cells [au (bJ nodes ⟨a,b,c,d,e,u⟩),.int .i64 next,.int .i64 af])) :=
 gj hM (aj0 nodes next af ⟨a,b,c,d,e,u⟩ h h0 hn) rfl rfl rfl rfl rfl rfl rfl rfl rfl rfl
def FZ:(∀M cs,ae.ot M (.agg cs) = .agg (cs.map (ae.gQ M)))/\(∀M i o,ae.ot M (.ptr i o) = .ptr i o)/\(∀M k n,ae.ot M (.int k n) = .int k n)/\(∀M s,ae.ot M (.str s) = .str s) /\
  (∀M k n,ae.gQ M (.int k n) = .int k n)/\(∀M s,ae.gQ M (.str s) = .str s)/\(∀M tk xs,ae.gQ M (.slice tk xs) = .slice tk xs)/\(∀M b,ae.gQ M (.bool b) = .bool b) /\
  (∀M id ver sz lo hi,ae.gQ M (.aW id ver sz lo hi)=match nth M id with
   |some (.arr _ v xs)=>if v=ver then .slice .sh ((xs.take hi).drop lo) else .any
   |_ => .any)/\(∀i a b c d,ae.fP (.aW i a b c d)=[i]):=by
 refine⟨?_,?_,?_,?_,?_,?_,?_,?_,?_,?_⟩<;>intros<;>rfl
def sZ{nodes:List Node}(h:gr nodes){ino:Int}{o:Node}(ho:nodes[eO nodes ino]?=some o)(he:o.ino=ino):db nodes ino=nodes.take (eO nodes ino)++nodes.drop (eO nodes ino+1):=by
 have hl:=mg h ino;have hlt:=(List.getElem?_eq_some_iff.1 ho).1
 have hd:∀m,m∈nodes.drop (eO nodes ino+1)->ino<m.ino:=fun m hm=>by
  obtain⟨k,hk⟩:=List.getElem?_of_mem hm;rw[List.getElem?_drop] at hk;have hkl:=(List.getElem?_eq_some_iff.1 hk).1;have h3:=List.pairwise_iff_getElem.1 h _ _ hlt hkl (by omega)
  have h4:nodes[eO nodes ino+1+k]=m:=by rw[List.getElem?_eq_getElem hkl] at hk; injection hk
  have h5:nodes[eO nodes ino]=o:=by rw[List.getElem?_eq_getElem hlt] at ho; injection ho
  rw[h4,h5] at h3;omega
 have hdr:nodes.drop (eO nodes ino)=o::nodes.drop (eO nodes ino+1):=by
  rw[List.drop_eq_getElem_cons hlt];rw[List.getElem?_eq_getElem hlt] at ho; injection ho with ho; rw[ho]
 unfold db;rw[show nodes.filter (fun n=>n.ino != ino)=(nodes.take (eO nodes ino)++nodes.drop (eO nodes ino)).filter (fun n=>n.ino != ino) by rw[List.take_append_drop]]
 rw[List.filter_append,hdr,List.filter_cons];simp only[he,bne_self_eq_false,Bool.false_eq_true,if_false];rw[List.filter_eq_self.2 fun m hm=>by have:=nt hl m hm; simp; omega,List.filter_eq_self.2 fun m hm=>by have:=hd m hm; simp; omega]
def qF{nodes:List Node}{ino:Int}(hf:find nodes ino=none):db nodes ino=nodes :=
 List.filter_eq_self.2 fun m hm=>by simpa using List.find?_eq_none.1 hf m hm
def anS{nodes:List Node}{b:Nat}(hb:b<nodes.length)(hn:nodes.length<=100000)(c0:aM) :
  ag aH 294 [.aW 1 0 6 0 nodes.length,.int .i64 b,.int .i64 ((b+1:Nat):Int)] [c0,.arr 6 0 (nodes.map aF)]=some (.aW 1 1 6 0 (nodes.length-1),[c0,.arr 6 1 ((nodes.take b++nodes.drop (b+1)).map aF)]):=by
 refine bR (g:=eL 6) rfl ?_;unfold eL;simp only[nth];rw[bo ⟨trivial,trivial,trivial,by simp,by omega,by simpa using hb,by omega,by simp; omega⟩]
 simp[dA]
def akC(nodes:List Node)(next af ino:Int)(h:gr nodes)(hn:nodes.length<=100000):ag aH 258 [.ptr 0 0,.int .i64 ino] [.cells [au nodes,.int .i64 next,.int .i64 af]] =
  some (.tuple [],[.cells [au (db nodes ino),.int .i64 next,.int .i64 af]]):=by
 refine ai ?_;have hk:=fun M=>Xp nodes next af ino h hn 0 (.cells [au nodes,.int .i64 next,.int .i64 af]::M) rfl
 simp only[K2,VD,hk,EN,simprocAttr];rcases ky h ino with ⟨h1,o,h2,h3,h4⟩|⟨h1,h2⟩
 ·have hlt:=(List.getElem?_eq_some_iff.1 h2).1;have h0:nodes≠[]:=by rintro rfl; simp at h2
  have hp:=fun M=>p85 h0 hn M
  have hd:=fun c0=>anS hlt hn c0
  have hw:IntKind.i64.wrap ((eO nodes ino:Int)+1)=((eO nodes ino+1:Nat):Int):=by rw[cL (by omega) (by omega)]; rfl
  simp only[VD,h1,hp,hd,hw,List.getElem?_cons_zero,List.getElem?_cons_succ,EN,simprocAttr];rw[sZ h h2 h4,List.take_of_length_le (by simp; omega)]
 ·simp only[VD,h1,EN,simprocAttr];rw[qF h2]
def aes(nodes:List Node)(next af ino:Int)(h:gr nodes)(hn:nodes.length<=100000)(p:Nat)(M:aj)(hM:nth M p=some (.cells [au nodes,.int .i64 next,.int .i64 af])) :
  ar (ag aH) 258 [.ptr p 0,.int .i64 ino] M=some (.tuple [],dA M p (.cells [au (db nodes ino),.int .i64 next,.int .i64 af])) :=
 gj hM (akC nodes next af ino h hn) rfl rfl rfl rfl rfl rfl rfl rfl rfl rfl
def Eu{a b:Bytes}(h:strLt a b=true):strLt b a=false:=by
 cases hb:strLt b a with
 |false=>rfl
 |true=>have:=ph h hb; rw[jq] at this; cases this
def pg:∀(a b:Bytes),strLt a b=true\/a=b\/strLt b a=true
 | [],[] => .inr (.inl rfl)
 | [],_::_ => .inl rfl
 |_::_,[] => .inr (.inr rfl)
 |a::x,b::y=>by
  simp only[strLt,Bool.or_eq_true,Bool.and_eq_true,decide_eq_true_eq,beq_iff_eq,List.cons.injEq,UInt8.lt_iff_toNat_lt];rcases pg x y with h|h|h
  ·rcases Nat.lt_trichotomy a.toNat b.toNat with h1|h1|h1
   ·exact .inl (.inl h1)
   ·exact .inl (.inr ⟨UInt8.toNat_inj.1 h1,h⟩)
   ·exact .inr (.inr (.inl h1))
  ·rcases Nat.lt_trichotomy a.toNat b.toNat with h1|h1|h1
   ·exact .inl (.inl h1)
   ·exact .inr (.inl ⟨UInt8.toNat_inj.1 h1,h⟩)
   ·exact .inr (.inr (.inl h1))
  ·rcases Nat.lt_trichotomy a.toNat b.toNat with h1|h1|h1
   ·exact .inl (.inl h1)
   ·exact .inr (.inr (.inr ⟨(UInt8.toNat_inj.1 h1).symm,h⟩))
   ·exact .inr (.inr (.inl h1))
def G6{a b:Bytes}(h:strLt a b=true):US a b=false:=by simp[US,h]
def G5{a b:Bytes}(h:strLt b a=true):US a b=true:=by
 have h1:=Eu h;have h2:¬a=b:=by rintro rfl; rw[jq] at h; cases h
 simp[US,h1,h2]
def BK(e:ct)(rest:List ct):∀(pre out:List ct),(∀m,m∈pre->strLt m.name e.name=true)->nb e (pre++rest) out false=nb e rest (out++pre) false
 | [],out,_=>by simp
 |m::r,out,h=>by
  rw[List.cons_append,nb,G6 (h m (List.mem_cons_self ..))];simp only[Bool.and_false,Bool.or_false,Bool.false_eq_true,if_false];rw[BK e rest r _ fun x hx=>h x (List.mem_cons_of_mem _ hx)]
  simp
def yp(e:ct):∀(rest out:List ct),nb e rest out true=(out++rest,true)
 | [],out=>by simp[nb]
 |m::r,out=>by
  rw[nb];simp only[Bool.not_true,Bool.false_and,Bool.true_or,Bool.false_eq_true,if_false];rw[yp e r];simp
def uu{l:List ct}{s:Bytes}{b:Nat}(h:Ap l s b):∀m,m∈l.take b->strLt m.name s=true:=fun m hm=>by
 obtain⟨k,hk⟩:=List.getElem?_of_mem hm;rw[List.getElem?_take] at hk;split at hk
 ·rename_i hlt; exact(h.lt k m hk).2 hlt
 ·cases hk
def vY{l:List ct}{s:Bytes}{b:Nat}(h:Ap l s b):∀m,m∈l.drop b->strLt m.name s=false:=fun m hm=>by
 obtain⟨k,hk⟩:=List.getElem?_of_mem hm;rw[List.getElem?_drop] at hk;have:=h.lt _ m hk;have hn:¬b+k<b:=by omega
 cases hc:strLt m.name s with
 |false=>rfl
 |true=>exact absurd (this.1 hc) hn
def na{l:List ct}(h:ja l){e:ct}(hf:cB l e.name=none):ra l e=l.take (fa l e.name)++e::l.drop (fa l e.name):=by
 have hl:=jQ h e.name
 have hd:∀m,m∈l.drop (fa l e.name)->strLt e.name m.name=true:=fun m hm=>by
  have h1:=vY hl m hm;have h2:=List.find?_eq_none.1 hf m (List.mem_of_mem_drop hm);have h3:¬m.name=e.name:=by simpa using h2
  rcases pg m.name e.name with h4|h4|h4
  ·rw[h1] at h4; cases h4
  ·exact absurd h4 h3
  ·exact h4
 unfold ra;rw[show nb e l [] false=nb e (l.take (fa l e.name)++l.drop (fa l e.name)) [] false by rw[List.take_append_drop]]
 rw[BK e _ _ _ (uu hl)];generalize l.drop (fa l e.name)=rest at hd;cases rest with
 |nil=>simp[nb]
 |cons m r =>
  rw[nb,G5 (hd m (List.mem_cons_self ..))];simp only[Bool.not_false,Bool.and_true,Bool.or_true,if_true];rw[yp];simp
def xX{l:List ct}(h:ja l){s:Bytes}{o:ct}(ho:l[fa l s]?=some o)(he:o.name=s):dB l s=l.take (fa l s)++l.drop (fa l s+1):=by
 have hl:=jQ h s;have hlt:=(List.getElem?_eq_some_iff.1 ho).1
 have hdr:l.drop (fa l s)=o::l.drop (fa l s+1):=by
  rw[List.drop_eq_getElem_cons hlt];rw[List.getElem?_eq_getElem hlt] at ho; injection ho with ho; rw[ho]
 have hd:∀m,m∈l.drop (fa l s+1)->strLt s m.name=true:=fun m hm=>by
  obtain⟨k,hk⟩:=List.getElem?_of_mem hm;rw[List.getElem?_drop] at hk;have hkl:=(List.getElem?_eq_some_iff.1 hk).1;have h3:=List.pairwise_iff_getElem.1 h _ _ hlt hkl (by omega)
  have h4:l[fa l s+1+k]=m:=by rw[List.getElem?_eq_getElem hkl] at hk; injection hk
  have h5:l[fa l s]=o:=by rw[List.getElem?_eq_getElem hlt] at ho; injection ho
  rw[h4,h5,he] at h3;exact h3
 have ne:∀ {a b:Bytes},strLt a b=true->¬a=b:=fun {a b} h=>by rintro rfl; rw[jq] at h; cases h
 unfold dB;rw[show l.filter (fun n=>n.name != s)=(l.take (fa l s)++l.drop (fa l s)).filter (fun n=>n.name != s) by rw[List.take_append_drop]]
 rw[List.filter_append,hdr,List.filter_cons];simp only[he,bne_self_eq_false,Bool.false_eq_true,if_false];rw[List.filter_eq_self.2 fun m hm=>by simpa using ne (uu hl m hm),List.filter_eq_self.2 fun m hm=>by simpa using fun hc=>ne (hd m hm) hc.symm]
def DC{l:List ct}{s:Bytes}(hf:cB l s=none):dB l s=l :=
 List.filter_eq_self.2 fun m hm=>by simpa using List.find?_eq_none.1 hf m hm
def p58{l:List ct}(h0:l≠[])(hn:l.length<=100000)(M:aj):ag aH 214 [cT l] M=some (.aW M.length 0 3 0 l.length,M++[.arr 3 0 (l.map cn)]):=by
 refine bR (g:=fq 3 32) rfl ?_;obtain⟨a,r,rfl⟩:=List.exists_cons_of_ne_nil h0;have hw:wid ((a::r).map cn) 3:=by have:=CJ (a::r); simpa using this
 have hr:aP ((a::r).map cn).length 32:=by have:=jn (a:=(a::r).length) (b:=32) (by omega) (by omega); simpa using this
 unfold fq;simp only[List.map_cons] at hw hr ⊢;rw[bo ⟨hw,hr⟩];simp
def ahh(M:aj):ag aH 214 [.slice .sh []] M=some (.slice .c0 [],M):=bR (g:=fq 3 32) rfl rfl
def p87{l:List ct}{b:Nat}(hb:b<=l.length)(hn:l.length<=100000)(e:ct)(c0 c1:aM) :
  ag aH 257 [.aW 2 0 3 0 l.length,.int .i64 b,.slice .sh [.agg (bU e)]] [c0,c1,.arr 3 0 (l.map cn)]=some (.aW 2 1 3 0 (l.length+1),[c0,c1,.arr 3 1 ((l.take b++e::l.drop b).map cn)]):=by
 refine bR (g:=eD 3 32) rfl ?_;have hr:aP ((l.map cn).length+1) 32:=by have:=jn (a:=l.length+1) (b:=32) (by omega) (by omega); simpa using this
 unfold eD;simp only[nth];rw[bo ⟨trivial,trivial,trivial,by simp,by omega,by simpa using hb,rfl,hr⟩]
 simp[dA,cn]
def anU(e:ct)(M:aj):ag aH 257 [.slice .c0 [],.int .i64 0,.slice .sh [.agg (bU e)]] M=some (.aW M.length 0 3 0 1,M++[.arr 3 0 [.agg (bU e)]]):=by
 refine bR (g:=eD 3 32) rfl ?_
 show aQ ((0:Int)=0/\(ae.agg (bU e)).cells.length=3) _=_
 exact bo ⟨rfl,rfl⟩
def p84{l:List ct}{b:Nat}(hb:b<l.length)(hn:l.length<=100000)(c0 c1:aM) :
  ag aH 260 [.aW 2 0 3 0 l.length,.int .i64 b,.int .i64 ((b+1:Nat):Int)] [c0,c1,.arr 3 0 (l.map cn)]=some (.aW 2 1 3 0 (l.length-1),[c0,c1,.arr 3 1 ((l.take b++l.drop (b+1)).map cn)]):=by
 refine bR (g:=eL 3) rfl ?_;unfold eL;simp only[nth];rw[bo ⟨trivial,trivial,trivial,by simp,by omega,by simpa using hb,by omega,by simp; omega⟩]
 simp[dA]
def Ex{nodes:List Node}(h:gr nodes){n:Node}(hf:find nodes n.ino=some n):bJ nodes n=nodes:=by
 rcases ky h n.ino with ⟨_,o,h2,h3,h4⟩|⟨_,h2⟩
 ·rw[hf] at h3; cases h3;rw[kX h h2 rfl];apply List.ext_getElem?;intro i
  by_cases e:eO nodes n.ino=i
  ·subst e; rw[List.getElem?_set_self (List.getElem?_eq_some_iff.1 h2).1,h2]
  ·rw[List.getElem?_set_ne e]
 ·rw[hf] at h2; cases h2
def c198(nodes:List Node)(next af dir:Int)(s:Bytes)(ino:Int)(h:gr nodes)(hn:nodes.length<=100000){n:Node}(hf:find nodes dir=some n)(hE:ja n.av)(hl:n.av.length<=99999)(hs:cB n.av s=none) :
  ag aH 198 [.ptr 0 0,.int .i64 dir,.str s,.int .i64 ino] [.cells [au nodes,.int .i64 next,.int .i64 af]]=some (.tuple [],[.cells (ak (cW ⟨nodes,next,af⟩ dir s ino))]):=by
 refine ai ?_;have h0:nodes≠[]:=by rintro rfl; simp[find] at hf
 have hnn:aD nodes dir=n:=by simp[aD,hf]
 have hk:=fun M=>xF nodes next af dir h hn 0 (.cells [au nodes,.int .i64 next,.int .i64 af]::M) rfl
 have hk2:=fun a b c d u M=>LC a b c d n.av u s _ (jQ hE s) (by omega) M
 have hle:=(jQ hE s).le
 have hres:cW ⟨nodes,next,af⟩ dir s ino=⟨bJ nodes { n with av:=n.av.take (fa n.av s)++⟨s,ino,af⟩::n.av.drop (fa n.av s) },next,fO (af+1)⟩:=by
  have:=na hE (e:=⟨s,ino,af⟩) hs;simp only[cW,hf,Option.getD_some,this]
 rw[hres,ak];have hp:=fun a b c d e u M=>DX nodes next (fO (af+1)) a b c d e u h h0 hn 0 (.cells [au nodes,.int .i64 next,.int .i64 (fO (af+1))]::M) rfl
 simp only[Ks,Iu,hk,hnn,aF,an,hk2,EN,simprocAttr]
 by_cases hne:n.av=[]
 ·have hlow:fa n.av s=0:=by rw[hne]; rfl
  have hi:=fun M=>anU ⟨s,ino,af⟩ M
  simp only[bU] at hi;have hlow0:fa [] s=0:=rfl;have hc0:((0:Nat):Int)=0:=rfl;simp only[Iu,hne,hlow0,hc0,cT,ahh,hi,FZ,kC,EN,simprocAttr];rw[show ae.slice .sh [ae.agg [.str s,.int .i64 ino,.int .i64 af]]=cT [⟨s,ino,af⟩] from rfl]
  simp only[Iu,hp,EN,simprocAttr]
 ·have hc:=fun M=>p58 hne (show n.av.length<=100000 by omega) M
  have hi:=fun c0 c1=>p87 hle (show n.av.length<=100000 by omega) ⟨s,ino,af⟩ c0 c1
  simp only[bU] at hi;simp only[Iu,hc,hi,FZ,kC,EN,simprocAttr];have ht:List.take (n.av.length+1) (List.map cn (List.take (fa n.av s) n.av++⟨s,ino,af⟩::List.drop (fa n.av s) n.av))=List.map cn (List.take (fa n.av s) n.av++⟨s,ino,af⟩::List.drop (fa n.av s) n.av):=List.take_of_length_le (by simp; omega)
  rw[ht];simp only[Iu,hp,EN,simprocAttr]
def RN(nodes:List Node)(next af dir:Int)(s:Bytes)(ino:Int)(h:gr nodes)(hn:nodes.length<=100000){n:Node}(hf:find nodes dir=some n)(hE:ja n.av)(hl:n.av.length<=99999)(hs:cB n.av s=none)(p:Nat)(M:aj)(hM:nth M p=some (.cells [au nodes,.int .i64 next,.int .i64 af])) :
  ar (ag aH) 198 [.ptr p 0,.int .i64 dir,.str s,.int .i64 ino] M=some (.tuple [],dA M p (.cells (ak (cW ⟨nodes,next,af⟩ dir s ino)))) :=
 gj hM (c198 nodes next af dir s ino h hn hf hE hl hs) rfl rfl rfl rfl rfl rfl rfl rfl rfl rfl
def aj5(nodes:List Node)(next af dir:Int)(s:Bytes)(h:gr nodes)(hn:nodes.length<=100000){n:Node}(hf:find nodes dir=some n)(hE:ja n.av)(hl:n.av.length<=99999) :
  ag aH 204 [.ptr 0 0,.int .i64 dir,.str s] [.cells [au nodes,.int .i64 next,.int .i64 af]]=some (.tuple [],[.cells [au (bm nodes dir s),.int .i64 next,.int .i64 af]]):=by
 refine ai ?_;have h0:nodes≠[]:=by rintro rfl; simp[find] at hf
 have hnn:aD nodes dir=n:=by simp[aD,hf]
 have hino:n.ino=dir:=(bh hf).2;have hk:=fun M=>xF nodes next af dir h hn 0 (.cells [au nodes,.int .i64 next,.int .i64 af]::M) rfl
 have hk2:=fun a b c d u M=>LC a b c d n.av u s _ (jQ hE s) (by omega) M
 have hp:=fun a b c d e u M=>DX nodes next af a b c d e u h h0 hn 0 (.cells [au nodes,.int .i64 next,.int .i64 af]::M) rfl
 have hres:bm nodes dir s=bJ nodes { n with av:=dB n.av s }:=by simp only[bm,hf,Option.getD_some]
 rw[hres];simp only[Kw,QG,hk,hnn,aF,an,hk2,EN,simprocAttr];rcases oD hE s with ⟨h1,o,h2,h3,h4⟩|⟨h1,h2⟩
 ·have hlt:=(List.getElem?_eq_some_iff.1 h2).1;have hne:n.av≠[]:=by intro hc; rw[hc] at h2; simp at h2
  have hc:=fun M=>p58 hne (show n.av.length<=100000 by omega) M
  have hd:=fun c0 c1=>p84 hlt (show n.av.length<=100000 by omega) c0 c1
  have hw:IntKind.i64.wrap ((fa n.av s:Int)+1)=((fa n.av s+1:Nat):Int):=by rw[cL (by omega) (by omega)]; rfl
  simp only[QG,h1,hc,hd,hw,FZ,kC,EN,simprocAttr];have ht:List.take (n.av.length-1) (List.map cn (List.take (fa n.av s) n.av++List.drop (fa n.av s+1) n.av))=List.map cn (List.take (fa n.av s) n.av++List.drop (fa n.av s+1) n.av):=List.take_of_length_le (by simp; omega)
  rw[ht];simp only[QG,hp,EN,simprocAttr];rw[xX hE h2 h4]
 ·simp only[QG,h1,EN,simprocAttr];rw[DC h2];have:bJ nodes n=nodes:=Ex h (by rw[hino]; exact hf)
  rw[show({ n with av:=n.av }:Node)=n from rfl,this]
def Xm(nodes:List Node)(next af dir:Int)(s:Bytes)(h:gr nodes)(hn:nodes.length<=100000){n:Node}(hf:find nodes dir=some n)(hE:ja n.av)(hl:n.av.length<=99999)(p:Nat)(M:aj)(hM:nth M p=some (.cells [au nodes,.int .i64 next,.int .i64 af])) :
  ar (ag aH) 204 [.ptr p 0,.int .i64 dir,.str s] M=some (.tuple [],dA M p (.cells [au (bm nodes dir s),.int .i64 next,.int .i64 af])) :=
 gj hM (aj5 nodes next af dir s h hn hf hE hl) rfl rfl rfl rfl rfl rfl rfl rfl rfl rfl
def ec(nodes:List Node)(n:Node):List Node:=if (n.kind==2)=true then db nodes n.ino else bJ nodes { n with bE:=fO (n.bE-1) }
def aj6(nodes:List Node)(next af:Int)(n:Node)(h:gr nodes)(h0:nodes≠[])(hn:nodes.length<=100000) :
  ag aH 205 [.ptr 0 0,aF n] [.cells [au nodes,.int .i64 next,.int .i64 af]]=some (.tuple [],[.cells [au (ec nodes n),.int .i64 next,.int .i64 af]]):=by
 refine ai ?_;have hp:=fun a b c d e u M=>DX nodes next af a b c d e u h h0 hn 0 (.cells [au nodes,.int .i64 next,.int .i64 af]::M) rfl
 have hd:=fun M=>aes nodes next af n.ino h hn 0 (.cells [au nodes,.int .i64 next,.int .i64 af]::M) rfl
 simp only[Kx,Vz,aF,an,EN,simprocAttr];unfold ec;refine aB (fun hb=>?_) (fun hb=>?_)
 ·simp only[Vz,hb,hd,EN,simprocAttr]
 ·simp only[Vz,hb,hp,Bool.false_eq_true,EN,simprocAttr]
def aei(nodes:List Node)(next af a b c:Int)(d:Bytes)(e:List ct)(u:Int)(h:gr nodes)(h0:nodes≠[])(hn:nodes.length<=100000)(p:Nat)(M:aj)(hM:nth M p=some (.cells [au nodes,.int .i64 next,.int .i64 af])) :
  ar (ag aH) 205 [.ptr p 0,.agg [.int .i64 a,.int .i64 b,.int .i64 c,bc d,cT e,.int .i64 u]] M=some (.tuple [],dA M p (.cells [au (ec nodes ⟨a,b,c,d,e,u⟩),.int .i64 next,.int .i64 af])) :=
 gj hM (aj6 nodes next af ⟨a,b,c,d,e,u⟩ h h0 hn) rfl rfl rfl rfl rfl rfl rfl rfl rfl rfl
def jU(nodes:List Node)(ino:Int):Nat:=(kP nodes ino).length-1
def gn(t:Tree)(dir:Int)(s:Bytes):Int :=
 if ((cK t.nodes dir).2 != 0)=true then (cK t.nodes dir).2 else if (!cr s)=true then 60 else if (cB (cK t.nodes dir).1.av s).isSome=true then 71 else
 if (decide ((64:Int)<=(cK t.nodes dir).1.av.length)||(decide ((12:Int)<=jU t.nodes dir)||decide ((1099511627776:Int)<=t.af)))=true then 76 else 0
def c196(nodes:List Node)(next af dir:Int)(s:Bytes)(ht:Small ⟨nodes,next,af⟩)(hr:jv ⟨nodes,next,af⟩)(hs:s.length<=100000)(ha:gu s) :
  ag aH 196 [.ptr 0 0,.int .i64 dir,.str s] [.cells [au nodes,.int .i64 next,.int .i64 af]]=some (.int .i64 (gn ⟨nodes,next,af⟩ dir s),[.cells [au nodes,.int .i64 next,.int .i64 af]]):=by
 have hn:nodes.length<=100000:=ht.nodes;have hd:(cK nodes dir).1.av.length<=100000:=kU ht dir;have hE:ja (cK nodes dir).1.av:=hr.dir dir;have hk:=fun M=>RO nodes next af dir hr.hV hn 0 (.cells [au nodes,.int .i64 next,.int .i64 af]::M) rfl
 have hk2:=fun a b c d u M=>LC a b c d (cK nodes dir).1.av u s _ (jQ hE s) hd M
 have hk3:∀M,ar (ag aH) 254 [.ptr 0 0,.int .i64 dir] (.cells [au nodes,.int .i64 next,.int .i64 af]::M)=some (.int .i64 (jU nodes dir),.cells [au nodes,.int .i64 next,.int .i64 af]::M):=fun M=>aer nodes next af dir hr.hV hn 0 (.cells [au nodes,.int .i64 next,.int .i64 af]::M) rfl
 refine ai ?_;simp only[Kq,Ak,hk,aF,an,EN,simprocAttr];refine aB (fun hb=>?_) (fun hb=>?_)
 ·simp only[Ak,hb,EN,simprocAttr];clear hk hk2 hk3;simp_all only[gn,iw,↓reduceIte,reduceCtorEq,bne_self_eq_false]
 simp only[Ak,hb,Xn,hs,ha,EN,simprocAttr];refine aB (fun hb1=>?_) (fun hb1=>?_)
 ·simp only[Ak,hb1,EN,simprocAttr];clear hk hk2 hk3;simp_all only[gn,iw,↓reduceIte,reduceCtorEq,bne_self_eq_false]
 simp only[Ak,hb1,hk2,EN,simprocAttr];rcases oD hE s with ⟨h1,o,h2,h3,h4⟩|⟨h1,h2⟩
 ·simp only[Ak,h1,EN,simprocAttr];clear hk hk2 hk3;simp_all only[gn,Option.isSome_some,iw,↓reduceIte,reduceCtorEq,bne_self_eq_false]
 ·simp only[Ak,h1,EN,simprocAttr]
  repeat' ((first|refine aB (fun hb=>?_) (fun hb=>?_)|refine aJ (fun hb=>?_) (fun hb=>?_)|refine bp (fun hb=>?_) (fun hb=>?_))<;>simp only[hb,EN,Ak,hk3,simprocAttr])
  all_goals (clear hk hk2 hk3; simp_all only[gn,Option.isSome_none,iw,↓reduceIte,reduceCtorEq,bne_self_eq_false]; done)
def aee(nodes:List Node)(next af dir:Int)(s:Bytes)(ht:Small ⟨nodes,next,af⟩)(hr:jv ⟨nodes,next,af⟩)(hs:s.length<=100000)(ha:gu s)(p:Nat)(M:aj)(hM:nth M p=some (.cells [au nodes,.int .i64 next,.int .i64 af])) :
  ar (ag aH) 196 [.ptr p 0,.int .i64 dir,.str s] M=some (.int .i64 (gn ⟨nodes,next,af⟩ dir s),M):=by
 have:=gj hM (c196 nodes next af dir s ht hr hs ha) rfl rfl rfl rfl rfl rfl rfl rfl rfl rfl
 rwa[gN hM] at this
def sq(x y:Node):Int:=if (x.kind==2&&y.kind != 2)=true then 73 else if (x.kind != 2&&y.kind==2)=true then 72 else if decide ((0:Int)<y.av.length)=true then 74 else 0
def akc(x y:Node):ag aH 211 [aF x,aF y] []=some (.int .i64 (sq x y),[]):=by
 refine ai ?_;simp only[KC,aaD,aF,an,EN,simprocAttr]
 repeat' ((first|refine aB (fun hb=>?_) (fun hb=>?_)|refine aJ (fun hb=>?_) (fun hb=>?_)|refine bp (fun hb=>?_) (fun hb=>?_))<;>simp only[hb,EN,aaD,simprocAttr])
 all_goals (simp_all only[sq,iw,↓reduceIte,reduceCtorEq,bne_self_eq_false]; done)
def aj2(t:Tree)(ino:Int)(ht:Small t)(hr:jv t):ag aH 200 [aA t,.int .i64 ino] []=some (.tuple [aA (gD t ino).1,.int .i64 (gD t ino).2],[]):=by
 obtain⟨nodes,next,af⟩:=t
 have hn:nodes.length<=100000:=ht.nodes;refine ai ?_;have hk:=fun b c M=>xF nodes next af ino hr.hV hn 2 (b::c :: .cells [au nodes,.int .i64 next,.int .i64 af]::M) rfl
 have hd:=fun b c M=>aes nodes next af ino hr.hV hn 2 (b::c :: .cells [au nodes,.int .i64 next,.int .i64 af]::M) rfl
 simp only[Ku,aaC,aA,ak,hk,aF,an,EN,simprocAttr]
 repeat' ((first|refine aB (fun hb=>?_) (fun hb=>?_)|refine aJ (fun hb=>?_) (fun hb=>?_)|refine bp (fun hb=>?_) (fun hb=>?_))<;>simp only[hb,EN,aaC,hd,simprocAttr])
 all_goals (clear hk hd; simp_all only[gD,aA,ak,iw,↓reduceIte,reduceCtorEq,bne_self_eq_false]; done)
def alj(data:Bytes)(hd:data.length<=100000)(M:aj):ar (ag aH) 139 [bc data] M=some (bc data,M):=by
 refine cO (bR (g:=Zi 1 1) rfl ?_) M;have hw:wid (data.map hZ) 1:=by have:=jO data; simpa using this
 have hr:aP (data.map hZ).length 1:=by have:=jn (a:=data.length) (b:=1) (by omega) (by omega); simpa using this
 exact bo ⟨hw,hr⟩
def akj(t:Tree)(ino:Int)(data:Bytes)(ht:Small t)(hr:jv t)(hd:data.length<=100000):ag aH 227 [aA t,.int .i64 ino,bc data] []=some (.tuple [aA (j9 t ino data).1,.int .i64 (j9 t ino data).2],[]):=by
 obtain⟨nodes,next,af⟩:=t
 have hn:nodes.length<=100000:=ht.nodes;refine ai ?_;have hk:=fun b c M=>xF nodes next af ino hr.hV hn 2 (b::c :: .cells [au nodes,.int .i64 next,.int .i64 af]::M) rfl
 simp only[KK,QI,aA,ak,hk,aF,an,EN,simprocAttr];cases hf:find nodes ino with
 |none =>
  simp only[QI,Option.isSome_none,EN,simprocAttr];clear hk;simp_all only[j9,aA,ak,Option.isSome_none,iw,↓reduceIte,reduceCtorEq,bne_self_eq_false]
 |some n =>
  have h0:nodes≠[]:=by rintro rfl; simp[find] at hf
  have hp:=fun x y a b c d e u M=>DX nodes next af a b c d e u hr.hV h0 hn 2 (x::y :: .cells [au nodes,.int .i64 next,.int .i64 af]::M) rfl
  have hc:=fun M=>alj data hd M
  simp only[QI,Option.isSome_some,EN,simprocAttr]
  repeat' ((first|refine aB (fun hb=>?_) (fun hb=>?_)|refine aJ (fun hb=>?_) (fun hb=>?_)|refine bp (fun hb=>?_) (fun hb=>?_))<;>simp only[hb,EN,QI,hp,hc,simprocAttr])
  all_goals (clear hk hp hc; simp_all only[j9,aA,ak,Option.isSome_some,iw,↓reduceIte,reduceCtorEq,bne_self_eq_false]; done)
end
def C7{nodes:List Node}(h:gr nodes){a b:Node}(ha:a∈nodes)(hb:b∈nodes)(he:a.ino=b.ino):a=b:=by
 obtain⟨i,hi⟩:=List.getElem?_of_mem ha;obtain⟨k,hk⟩:=List.getElem?_of_mem hb;have hil:=(List.getElem?_eq_some_iff.1 hi).1;have hkl:=(List.getElem?_eq_some_iff.1 hk).1;have e1:nodes[i]=a:=by rw[List.getElem?_eq_getElem hil] at hi; injection hi
 have e2:nodes[k]=b:=by rw[List.getElem?_eq_getElem hkl] at hk; injection hk
 rcases Nat.lt_trichotomy i k with hlt|heq|hgt
 ·have:=List.pairwise_iff_getElem.1 h _ _ hil hkl hlt;rw[e1,e2] at this; omega
 ·subst heq; rw[<-e1,<-e2]
 ·have:=List.pairwise_iff_getElem.1 h _ _ hkl hil hgt;rw[e1,e2] at this; omega
def fG{nodes:List Node}(h:gr nodes){i:Int}{m:Node}:find nodes i=some m↔m∈nodes/\m.ino=i:=by
 refine⟨bh,fun⟨h1,h2⟩=>?_⟩
 cases hf:find nodes i with
 |none =>
  have:=List.find?_eq_none.1 hf m h1;simp[h2] at this
 |some k =>
  obtain⟨k1,k2⟩:=bh hf;rw[C7 h h1 k1 (by omega)]
def iC{nodes:List Node}{i:Int}:find nodes i=none↔∀m,m∈nodes->m.ino≠i:=by
 unfold find;rw[List.find?_eq_none];simp
def pN{nodes:List Node}{b:Nat}{o n:Node}(ho:nodes[b]?=some o):nodes=nodes.take b++o::nodes.drop (b+1)/\nodes.set b n=nodes.take b++n::nodes.drop (b+1):=by
 have hlt:=(List.getElem?_eq_some_iff.1 ho).1;constructor
 ·rw[List.getElem?_eq_getElem hlt] at ho; injection ho with ho
  conv=>lhs; rw[<-List.take_append_drop b nodes]
  rw[List.drop_eq_getElem_cons hlt,ho]
 ·rw[List.set_eq_take_append_cons_drop,if_pos hlt]
def ng{nodes:List Node}(h:gr nodes){n m:Node}:m∈bJ nodes n↔m=n\/(m∈nodes/\m.ino≠n.ino):=by
 rcases ky h n.ino with ⟨_,o,h2,h3,h4⟩|⟨_,h2⟩
 ·rw[kX h h2 h4];obtain⟨s1,s2⟩:=pN (n:=n) h2;have hon:o∈nodes:=(bh h3).1;constructor
  ·intro hm;rw[s2] at hm;rcases List.mem_append.1 hm with hm|hm
   ·have hmn:=List.mem_of_mem_take hm;have:=nt (mg h n.ino) m hm;exact .inr ⟨hmn,by omega⟩
   ·rcases List.mem_cons.1 hm with rfl|hm
    ·exact .inl rfl
    ·refine .inr ⟨List.mem_of_mem_drop hm,fun he=>?_⟩
     have hp:=h;unfold gr at hp;rw[s1,List.pairwise_append] at hp;have:=(List.pairwise_cons.1 hp.2.1).1 m hm;omega
  ·rintro(rfl|⟨hm,hne⟩)
   ·rw[s2]; simp
   ·rw[s1] at hm;rw[s2];rcases List.mem_append.1 hm with hm|hm
    ·exact List.mem_append_left _ hm
    ·rcases List.mem_cons.1 hm with rfl|hm
     ·exact absurd h4 hne
     ·exact List.mem_append_right _ (List.mem_cons_of_mem _ hm)
 ·rw[pR h h2];rw[iC] at h2;constructor
  ·intro hm;rcases List.mem_append.1 hm with hm|hm
   ·have:=List.mem_of_mem_take hm;exact .inr ⟨this,h2 m this⟩
   ·rcases List.mem_cons.1 hm with rfl|hm
    ·exact .inl rfl
    ·have:=List.mem_of_mem_drop hm;exact .inr ⟨this,h2 m this⟩
  ·rintro(rfl|⟨hm,_⟩)
   ·simp
   ·rw[<-List.take_append_drop (eO nodes n.ino) nodes] at hm;rcases List.mem_append.1 hm with hm|hm
    ·exact List.mem_append_left _ hm
    ·exact List.mem_append_right _ (List.mem_cons_of_mem _ hm)
def fA{nodes:List Node}(h:gr nodes)(n:Node):gr (bJ nodes n):=by
 have hl:=mg h n.ino;rcases ky h n.ino with ⟨_,o,h2,h3,h4⟩|⟨_,h2⟩
 ·rw[kX h h2 h4];obtain⟨s1,s2⟩:=pN (n:=n) h2;have hp:=h;unfold gr at hp ⊢;rw[s1,List.pairwise_append] at hp;obtain⟨p1,p2,p3⟩:=hp;obtain⟨p4,p5⟩:=List.pairwise_cons.1 p2;rw[s2,List.pairwise_append];refine⟨p1,List.pairwise_cons.2 ⟨fun m hm=>by have:=p4 m hm; omega,p5⟩,fun a ha c hc=>?_⟩
  rcases List.mem_cons.1 hc with rfl|hc
  ·exact nt hl a ha
  ·exact p3 a ha c (List.mem_cons_of_mem _ hc)
 ·rw[pR h h2];have hp:=h;unfold gr at hp ⊢;rw[<-List.take_append_drop (eO nodes n.ino) nodes,List.pairwise_append] at hp;obtain⟨p1,p2,p3⟩:=hp;rw[iC] at h2;rw[List.pairwise_append];refine⟨p1,List.pairwise_cons.2 ⟨fun m hm=>?_,p2⟩,fun a ha c hc=>?_⟩
  ·have k1:=xY hl m hm;have k2:=h2 m (List.mem_of_mem_drop hm);omega
  ·rcases List.mem_cons.1 hc with rfl|hc
   ·exact nt hl a ha
   ·exact p3 a ha c hc
def cN{nodes:List Node}(h:gr nodes)(n:Node)(i:Int):find (bJ nodes n) i=if i=n.ino then some n else find nodes i:=by
 split
 ·rename_i he;exact(fG (fA h n)).2 ⟨(ng h).2 (.inl rfl),he.symm⟩
 ·rename_i hne;cases hf:find nodes i with
  |none =>
   rw[iC] at hf ⊢;intro m hm;rcases(ng h).1 hm with rfl|⟨hm,_⟩
   ·exact fun he=>hne he.symm
   ·exact hf m hm
  |some m =>
   obtain⟨h1,h2⟩:=bh hf;exact(fG (fA h n)).2 ⟨(ng h).2 (.inr ⟨h1,by omega⟩),h2⟩
def js{nodes:List Node}(h:gr nodes)(i:Int):gr (db nodes i):=List.Pairwise.filter _ h
def gI{nodes:List Node}(h:gr nodes)(k i:Int):find (db nodes k) i=if i=k then none else find nodes i:=by
 split
 ·rename_i he;rw[iC];intro m hm;have:=(List.mem_filter.1 hm).2;simp at this;omega
 ·rename_i hne;cases hf:find nodes i with
  |none =>
   rw[iC] at hf ⊢;exact fun m hm=>hf m (List.mem_filter.1 hm).1
  |some m =>
   obtain⟨h1,h2⟩:=bh hf;exact(fG (js h k)).2 ⟨List.mem_filter.2 ⟨h1,by simp; omega⟩,h2⟩
def Ls{l:List ct}(h:ja l){e:ct}(hf:cB l e.name=none):ja (ra l e):=by
 rw[na h hf];have hl:=jQ h e.name;have hp:=h;unfold ja at hp ⊢;rw[<-List.take_append_drop (fa l e.name) l,List.pairwise_append] at hp;obtain⟨p1,p2,p3⟩:=hp;rw[List.pairwise_append];refine⟨p1,List.pairwise_cons.2 ⟨fun m hm=>?_,p2⟩,fun a ha c hc=>?_⟩
 ·have k1:=vY hl m hm;have k2:¬m.name=e.name:=by simpa using List.find?_eq_none.1 hf m (List.mem_of_mem_drop hm)
  rcases pg m.name e.name with h4|h4|h4
  ·rw[k1] at h4; cases h4
  ·exact absurd h4 k2
  ·exact h4
 ·rcases List.mem_cons.1 hc with rfl|hc
  ·exact uu hl a ha
  ·exact p3 a ha c hc
def tu{l:List ct}(h:ja l)(s:Bytes):ja (dB l s):=List.Pairwise.filter _ h
def jv.with{t:Tree}(h:jv t){n:Node}(hn:ja n.av)(next af:Int):jv ⟨bJ t.nodes n,next,af⟩ :=
 ⟨fA h.hV n,fun m hm=>by
  rcases(ng h.hV).1 hm with rfl|⟨hm,_⟩
  ·exact hn
  ·exact h.av m hm⟩
def jv.mo{t:Tree}(h:jv t)(i next af:Int):jv ⟨db t.nodes i,next,af⟩ :=
 ⟨js h.hV i,fun m hm=>h.av m (List.mem_filter.1 hm).1⟩
def jv.node{t:Tree}(h:jv t)(i:Int):ja (aD t.nodes i).av:=by
 cases hf:find t.nodes i with
 |none=>simp[aD,hf,Node.zero]; exact List.Pairwise.nil
 |some n=>simp[aD,hf]; exact h.av n (bh hf).1
def jv.left{t:Tree}(h:jv t)(i:Int)(s:Bytes)(next af:Int):jv ⟨bm t.nodes i s,next,af⟩ :=
 h.with (n:={ aD t.nodes i with av:=dB (aD t.nodes i).av s }) (tu (h.node i) s) next af
def jv.fR{t:Tree}(h:jv t)(i:Int)(s:Bytes)(of:Int)(hf:cB (aD t.nodes i).av s=none):jv (cW t i s of) :=
 h.with (n:={ aD t.nodes i with av:=ra (aD t.nodes i).av ⟨s,of,t.af⟩ }) (Ls (h.node i) hf) t.next (fO (t.af+1))
section
attribute [local irreducible] bS cz fu gK bG kr ag ar aQ aG
def qW{nodes:List Node}{dir:Int}(h:(cK nodes dir).2=0):∃d,find nodes dir=some d/\d.kind=2/\cK nodes dir=(d,0):=by
 unfold cK at h ⊢;split at h
 ·cases h
 ·rename_i d hd;split at h
  ·rename_i hk; exact⟨d,hd,hk,by simp[hd,hk]⟩
  ·cases h
def OV{t:Tree}{dir:Int}{s:Bytes}(h:(gn t dir s != 0)=false):∃d,find t.nodes dir=some d/\d.kind=2/\cr s=true/\cB d.av s=none/\d.av.length<64/\jU t.nodes dir<12/\t.af<1099511627776:=by
 have h:gn t dir s=0:=by simpa using h
 unfold gn at h;split at h
 ·rename_i hc;rw[h] at hc; cases hc
 ·rename_i hc;obtain⟨d,h1,h2,h3⟩:=qW (by simpa using hc)
  rw[h3] at h;split at h
  ·cases h
  ·rename_i hk;split at h
   ·cases h
   ·rename_i hf;split at h
    ·cases h
    ·rename_i hm;simp at hk hf hm;exact⟨d,h1,h2,hk,hf,by omega,by omega,by omega⟩
def C5(t:Tree)(ino:Int)(s:Bytes)(kind:Int):Tree×Int×Int :=
 if (kind != 1&&kind != 2)=true then (t,0,1) else if (gn t ino s != 0)=true then (t,0,gn t ino s) else
 if (decide ((200:Int)<=t.nodes.length)||decide ((1099511627776:Int)<=t.next))=true then (t,0,76) else
 (cW ⟨bJ t.nodes ⟨t.next,kind,1,[],[],if (kind==2)=true then ino else 0⟩,fO (t.next+1),t.af⟩ ino s t.next,t.next,0)
def ai7(t:Tree)(dir:Int)(s:Bytes)(kind:Int)(hz:Sz 1000 t)(hr:jv t)(hs:s.length<=100000)(ha:gu s)(dw:∀m,m∈t.nodes->m.ino<t.next) :
  ag aH 126 [aA t,.int .i64 dir,.str s,.int .i64 kind] []=some (.tuple [aA (C5 t dir s kind).1,.int .i64 (C5 t dir s kind).2.1,.int .i64 (C5 t dir s kind).2.2],[]):=by
 obtain⟨nodes,next,af⟩:=t
 have ht:Small ⟨nodes,next,af⟩:=hz.small (by omega)
 have hn:nodes.length<=100000:=ht.nodes;have hk:=fun b c M=>aee nodes next af dir s ht hr hs ha 2 (b::c :: .cells [au nodes,.int .i64 next,.int .i64 af]::M) rfl
 have last:(gn ⟨nodes,next,af⟩ dir s != 0)=false->∀u,nodes≠[]/\∀b c M,ar (ag aH) 198 [.ptr 2 0,.int .i64 dir,.str s,.int .i64 next] (b::c :: .cells [au (bJ nodes ⟨next,kind,1,[],[],u⟩),.int .i64 (fO (next+1)),.int .i64 af]::M) =
   some (.tuple [],b::c :: .cells (ak (cW ⟨bJ nodes ⟨next,kind,1,[],[],u⟩,fO (next+1),af⟩ dir s next))::M):=fun hm u=>by
  obtain⟨d,d1,d2,d3,d4,d5,d6,d7⟩:=OV hm;have dm:=bh d1;have hlt:=dw d dm.1;simp only at hlt;refine⟨by rintro rfl; simp[find] at d1,fun b c M=>?_⟩
  have hz1:Sz 1001 ⟨bJ nodes ⟨next,kind,1,[],[],u⟩,fO (next+1),af⟩:=hz.with (n:=⟨next,kind,1,[],[],u⟩) (by simp) (by simp) (fO (next+1)) af
  have hf:find (bJ nodes ⟨next,kind,1,[],[],u⟩) dir=some d:=by rw[cN hr.hV,if_neg (by simp; omega)]; exact d1
  exact RN (bJ nodes ⟨next,kind,1,[],[],u⟩) (fO (next+1)) af dir s next (fA hr.hV _) (hz1.small (by omega)).nodes hf (hr.av d dm.1) (by omega) d4 2 (b::c :: .cells [au (bJ nodes ⟨next,kind,1,[],[],u⟩),.int .i64 (fO (next+1)),.int .i64 af]::M) rfl
 refine ai ?_;simp only[JG,Vn,aA,ak,hk,EN,simprocAttr]
 repeat' ((first|refine aB (fun hb=>?_) (fun hb=>?_)|refine aJ (fun hb=>?_) (fun hb=>?_)|refine bp (fun hb=>?_) (fun hb=>?_))<;>simp only[hb,EN,Vn,hk,simprocAttr])
 all_goals try (clear hk last; simp_all only[C5,aA,ak,iw,↓reduceIte,reduceCtorEq,bne_self_eq_false]; done)
 all_goals
  have hm:(gn ⟨nodes,next,af⟩ dir s != 0)=false:=by assumption
  have h0:=(last hm 0).1
  have hp:∀u b c M,ar (ag aH) 197 [.ptr 2 0,.agg [.int .i64 next,.int .i64 kind,.int .i64 1,.slice .sh [],.slice .sh [],.int .i64 u]] (b::c :: .cells [au nodes,.int .i64 (fO (next+1)),.int .i64 af]::M) =
    some (.tuple [],b::c :: .cells [au (bJ nodes ⟨next,kind,1,[],[],u⟩),.int .i64 (fO (next+1)),.int .i64 af]::M):=fun u b c M=>DX nodes (fO (next+1)) af next kind 1 [] [] u hr.hV h0 hn 2 (b::c :: .cells [au nodes,.int .i64 (fO (next+1)),.int .i64 af]::M) rfl
  have hl:=fun u=>(last hm u).2
  simp only[Vn,hp,hl,ak,EN,simprocAttr];clear hk last hp hl;simp_all only[C5,aA,ak,iw,↓reduceIte,reduceCtorEq,bne_self_eq_false]
def lnW(t:Tree)(ino to:Int)(s:Bytes):Tree×Int :=
 if (!(find t.nodes ino).isSome||((aD t.nodes ino).kind==1&&(aD t.nodes ino).bE==0))=true then (t,70) else if ((aD t.nodes ino).kind==2)=true then (t,72) else
 if (gn t to s != 0)=true then (t,gn t to s) else
 (cW ⟨bJ t.nodes { aD t.nodes ino with bE:=fO ((aD t.nodes ino).bE+1) },t.next,t.af⟩ to s ino,0)
def ai9(t:Tree)(ino dir:Int)(s:Bytes)(hz:Sz 1000 t)(hr:jv t)(hs:s.length<=100000)(ha:gu s) :
  ag aH 128 [aA t,.int .i64 ino,.int .i64 dir,.str s] []=some (.tuple [aA (lnW t ino dir s).1,.int .i64 (lnW t ino dir s).2],[]):=by
 obtain⟨nodes,next,af⟩:=t
 have ht:Small ⟨nodes,next,af⟩:=hz.small (by omega)
 have hn:nodes.length<=100000:=ht.nodes;have hg:=fun b c M=>xF nodes next af ino hr.hV hn 2 (b::c :: .cells [au nodes,.int .i64 next,.int .i64 af]::M) rfl
 have hk:=fun b c M=>aee nodes next af dir s ht hr hs ha 2 (b::c :: .cells [au nodes,.int .i64 next,.int .i64 af]::M) rfl
 have last:(gn ⟨nodes,next,af⟩ dir s != 0)=false->(find nodes ino).isSome=true->((aD nodes ino).kind==2)=false->∀l,nodes≠[]/\∀b c M,ar (ag aH) 198 [.ptr 2 0,.int .i64 dir,.str s,.int .i64 ino] (b::c :: .cells [au (bJ nodes { aD nodes ino with bE:=l }),.int .i64 next,.int .i64 af]::M) =
   some (.tuple [],b::c :: .cells (ak (cW ⟨bJ nodes { aD nodes ino with bE:=l },next,af⟩ dir s ino))::M):=fun hm hi hkd l=>by
  obtain⟨d,d1,d2,d3,d4,d5,d6,d7⟩:=OV hm;have dm:=bh d1;refine⟨by rintro rfl; simp[find] at d1,fun b c M=>?_⟩
  have hfd:=hz.find ino;have hz1:Sz 1001 ⟨bJ nodes { aD nodes ino with bE:=l },next,af⟩:=hz.with (n:={ aD nodes ino with bE:=l }) (Nat.le_succ_of_le hfd.1) hfd.2 next af
  obtain⟨n,hfn⟩:=Option.isSome_iff_exists.1 hi;have hnn:aD nodes ino=n:=by simp[aD,hfn]
  have hne:¬dir=(aD nodes ino).ino:=fun he=>by
   rw[hnn] at he hkd;have h1:=(bh hfn).2;rw[he,h1,hfn] at d1;injection d1 with d1
   subst d1;simp[d2] at hkd
  have hf:find (bJ nodes { aD nodes ino with bE:=l }) dir=some d:=by rw[cN hr.hV,if_neg hne]; exact d1
  exact RN (bJ nodes { aD nodes ino with bE:=l }) next af dir s ino (fA hr.hV _) (hz1.small (by omega)).nodes hf (hr.av d dm.1) (by omega) d4 2 (b::c :: .cells [au (bJ nodes { aD nodes ino with bE:=l }),.int .i64 next,.int .i64 af]::M) rfl
 refine ai ?_;simp only[JI,Vo,aA,ak,hg,aF,an,EN,simprocAttr]
 repeat' ((first|refine aB (fun hb=>?_) (fun hb=>?_)|refine aJ (fun hb=>?_) (fun hb=>?_)|refine bp (fun hb=>?_) (fun hb=>?_))<;>simp only[hb,EN,Vo,hk,simprocAttr])
 all_goals try (clear hk hg last; simp_all only[lnW,aA,ak,iw,↓reduceIte,reduceCtorEq,bne_self_eq_false]; done)
 all_goals
  have hm:(gn ⟨nodes,next,af⟩ dir s != 0)=false:=by assumption
  have h2:((aD nodes ino).kind==2)=false:=by assumption
  have h3:(!(find nodes ino).isSome)=false:=by assumption
  have h3:(find nodes ino).isSome=true:=by simpa using h3
  have h0:=(last hm h3 h2 0).1;have hp:=fun a b c d e u x y M=>DX nodes next af a b c d e u hr.hV h0 hn 2 (x::y :: .cells [au nodes,.int .i64 next,.int .i64 af]::M) rfl
  have hl:=fun l=>(last hm h3 h2 l).2
  simp only[Vo,hp,hl,ak,EN,simprocAttr];clear hk hg last hp hl;simp_all only[lnW,aA,ak,iw,↓reduceIte,reduceCtorEq,bne_self_eq_false]
def look_ok{nodes:List Node}{dir:Int}{s:Bytes}(h:((bM nodes dir s).2 != 0)=false):∃d e,find nodes dir=some d/\d.kind=2/\cr s=true/\cB d.av s=some e/\bM nodes dir s=(e.ino,0):=by
 have h:(bM nodes dir s).2=0:=by simpa using h
 have h':=h;unfold bM at h;split at h
 ·rename_i hc; exact absurd h hc
 ·rename_i hc;obtain⟨d,h1,h2,h3⟩:=qW (by simpa using hc)
  rw[h3] at h;split at h
  ·cases h
  ·rename_i hk;split at h
   ·cases h
   ·rename_i e he;have hk:cr s=true:=by simpa using hk
    refine⟨d,e,h1,h2,hk,he,?_⟩;unfold bM;rw[h3];simp[hk,he]
def Vi(t:Tree)(dir:Int)(s:Bytes):Tree×Int×Int :=
 if ((bM t.nodes dir s).2 != 0)=true then (t,0,(bM t.nodes dir s).2) else if decide ((0:Int)<(aD t.nodes (bM t.nodes dir s).1).av.length)=true then (t,0,74) else
 (⟨ec (bm t.nodes dir s) (aD t.nodes (bM t.nodes dir s).1),t.next,t.af⟩,(bM t.nodes dir s).1,0)
def BX{nodes:List Node}(h:gr nodes){dir:Int}{s:Bytes}{d:Node}(hf:find nodes dir=some d):bm nodes dir s≠[]:=by
 intro hc
 have:({ d with av:=dB d.av s }:Node)∈bm nodes dir s:=by
  unfold bm;rw[hf];exact(ng h).2 (.inl rfl)
 rw[hc] at this;cases this
def aja(t:Tree)(dir:Int)(s:Bytes)(hz:Sz 1000 t)(hr:jv t)(hs:s.length<=100000)(ha:gu s) :
  ag aH 129 [aA t,.int .i64 dir,.str s] []=some (.tuple [aA (Vi t dir s).1,.int .i64 (Vi t dir s).2.1,.int .i64 (Vi t dir s).2.2],[]):=by
 obtain⟨nodes,next,af⟩:=t
 have ht:Small ⟨nodes,next,af⟩:=hz.small (by omega)
 have hn:nodes.length<=100000:=ht.nodes;have hg:=fun b c M=>xF nodes next af (bM nodes dir s).1 hr.hV hn 2 (b::c :: .cells [au nodes,.int .i64 next,.int .i64 af]::M) rfl
 have hl:=fun M=>RH nodes next af dir s ht hr hs ha M
 refine ai ?_;simp only[JJ,Ip,aA,ak,hl,EN,simprocAttr];refine aB (fun hb=>?_) (fun hb=>?_)
 ·simp only[Ip,hb,EN,simprocAttr];clear hg hl;simp_all only[Vi,aA,ak,iw,↓reduceIte,reduceCtorEq,bne_self_eq_false]
 obtain⟨d,e,d1,d2,d3,d4,d5⟩:=look_ok hb;have dm:=bh d1;have hde:d.av.length<=1000:=hz.av d dm.1;have hsz:Sz 1001 ⟨bm nodes dir s,next,af⟩:=hz.left dir s next af
 have hv:=fun x y M=>Xm nodes next af dir s hr.hV hn d1 (hr.av d dm.1) (by omega) 2 (x::y :: .cells [au nodes,.int .i64 next,.int .i64 af]::M) rfl
 have hu:=fun a b c d' e' u x y M=>aei (bm nodes dir s) next af a b c d' e' u (hr.left dir s next af).hV (BX hr.hV d1) (hsz.small (by omega)).nodes 2 (x::y :: .cells [au (bm nodes dir s),.int .i64 next,.int .i64 af]::M) rfl
 simp only[Ip,hb,hg,aF,an,EN,simprocAttr];refine aB (fun hb1=>?_) (fun hb1=>?_)
 ·simp only[Ip,hb1,EN,simprocAttr];clear hg hl hv hu;simp_all only[Vi,aA,ak,iw,↓reduceIte,reduceCtorEq,bne_self_eq_false]
 ·simp only[Ip,hb1,hv,hu,EN,simprocAttr];clear hg hl hv hu d5;simp_all only[Vi,aA,ak,iw,↓reduceIte,reduceCtorEq,bne_self_eq_false]
end
section
attribute [local irreducible] bS cz fu gK bG kr ag ar aQ aG
def DT(x:Int):List Int->Nat->Int
 | [],_ => -1
 |n::r,i=>if (x==n)=true then i else DT x r (i+1)
def Fm(x:Int):∀(l:List Int)(i:Nat),decide ((0:Int)<=DT x l i)=l.contains x
 | [],i=>by simp[DT]
 |n::r,i=>by
  unfold DT
  by_cases h:x=n
  ·simp[h]
  ·simp only[beq_iff_eq,h,if_false,Fm x r (i+1),List.contains_cons];simp[h]
def Te{l0:List Int}{x:Int}(hl:l0.length<=100000){k:List K}{R:Int->Option (ae×aj)}
  (hx:∀e,kr (ag aH) [.tmp 4] 0 k ⟨.exit 0,e,[]⟩=R (-1)) (hr:∀(i:Nat),kr (ag aH) [.tmp 4] 0 k ⟨.ret,[(4,.int .i64 i)],[]⟩=R i) :
  ∀(l pre:List Int),l0=pre++l->bS (ag aH) [.tmp 4] 0 k (.loop [0,1,7,8] SE) [(0,.slice .sh (l0.map fF)),(1,.int .i64 x),(7,.int .i64 l0.length),(8,.int .i64 pre.length)] []=R (DT x l pre.length):=by
 intro l;induction l with
 |nil =>
  intro pre h;rw[aC];simp only[CV,cQ h,EN,simprocAttr];exact hx _
 |cons n r ih =>
  intro pre h;rw[aC];have hlen:pre.length+1<=100000:=by rw[h] at hl; simp at hl; omega
  have hw:=ny pre n;have hi:=ih (pre++[n]) (by rw[h]; simp)
  simp only[List.length_append,List.length_cons,List.length_nil,Nat.zero_add] at hi;rw[DT];simp only[CV,cv h,bT h,EN,simprocAttr];refine aB (fun hb=>?_) (fun hb=>?_)
  ·simp only[CV,hb,EN,simprocAttr];exact hr _
  ·simp only[CV,hb,hw,Bool.false_eq_true,EN,simprocAttr];exact hi
def akH(l:List Int)(x:Int)(hl:l.length<=100000):ag aH 264 [.slice .sh (l.map fF),.int .i64 x] []=some (.int .i64 (DT x l 0),[]):=by
 refine ai ?_;simp only[K6,CV,EN,simprocAttr];exact Te (R:=fun z=>some (.int .i64 z,[])) hl (fun e=>by simp only[CV,EN,simprocAttr]) (fun i=>by simp only[CV,EN,simprocAttr]) l [] rfl
def alN l x hl:=cP (akH l x hl)
def akb(l:List Int)(x:Int)(hl:l.length<=100000):ag aH 210 [.slice .sh (l.map fF),.int .i64 x] []=some (.bool (l.contains x),[]):=by
 refine ai ?_;simp only[KB,aic,alN,hl,Fm,EN,simprocAttr]
def aej l x hl:=cP (akb l x hl)
def lk(nodes:List Node)(at' own ino:Int)(n:Node):Bool :=
 n.kind==2&&((kP nodes n.ino).contains ino&&(decide ((12:Int)<fO (fO (fO (at'+(kP nodes n.ino).length)-1)-own))||(fO (fO (fO (at'+(kP nodes n.ino).length)-1)-own)==12&&decide ((0:Int)<n.av.length))))
abbrev gy(nodes:List Node)(next af at' own ino:Int):aj:=[.cells [.ptr 4 0],.cells [.int .i64 at'],.cells [.int .i64 own],.cells [.int .i64 ino],.cells [au nodes,.int .i64 next,.int .i64 af]]
def akJ(nodes:List Node)(next af at' own ino:Int)(n:Node)(h:gr nodes)(hn:nodes.length<=99999) :
  ag aH 266 [aF n,.ptr 0 0,.ptr 1 0,.ptr 2 0,.ptr 3 0] (gy nodes next af at' own ino)=some (.bool (lk nodes at' own ino n),gy nodes next af at' own ino):=by
 refine ai ?_;have hk:=fun a b c d M=>Xo nodes next af n.ino h (by omega) 4 (a::b::c::d :: .cells [au nodes,.int .i64 next,.int .i64 af]::M) rfl
 have hl:=lQ nodes n.ino;have hc:=fun M=>aej (kP nodes n.ino) ino (by omega) M
 simp only[K8,aaI,gy,aF,an,EN,simprocAttr]
 repeat' ((first|refine aB (fun hb=>?_) (fun hb=>?_)|refine aJ (fun hb=>?_) (fun hb=>?_)|refine bp (fun hb=>?_) (fun hb=>?_))<;>simp only[hb,EN,aaI,hk,hc,simprocAttr])
 all_goals (clear hk hc; simp_all only[lk,fO,bne,Bool.not_eq_true',Bool.not_eq_false',iw,↓reduceIte,reduceCtorEq,bne_self_eq_false]; done)
end
def eE{C:bL}{f:Nat}{args args':List ae}{M B:aj}{ids:List Nat}{r r':ae}{B' M':aj}(h1:args.all ae.flat=true)(h2:reach M (args.flatMap ae.ids)=ids)(h3:dK M (da ids) ids=some B)(h4:eG M ids=ids)
  (h5:args.map (ae.iE (da ids))=args') (h:C f args' B=some (r,B')) (h6:B'.length=B.length) (h7:r.oN=true) (h8:B'.all aM.flat=true) (h9:r.vm (px ids)=r') (h10:eW ids M ids B'=M'):ar C f args M=some (r',M'):=by
 unfold ar;rw[if_pos h1,h2,h3];simp only[aI];rw[if_pos h4,h5,h];simp only[aI];rw[if_pos ⟨h6,h7,h8⟩,h9,h10]
def U4(nodes:List Node)(next af at' own ino:Int):dK (gy nodes next af at' own ino) (da [0,1,2,3,4]) [0,1,2,3,4]=some (gy nodes next af at' own ino):=rfl
def ahj(nodes:List Node)(next af at' own ino:Int):dK [.cells [au nodes,.int .i64 next,.int .i64 af],.cells [.ptr 0 0],.cells [.int .i64 ino],.cells [.int .i64 at'],.cells [.int .i64 own]] (da [1,3,4,2,0]) [1,3,4,2,0]=some (gy nodes next af at' own ino):=rfl
section
attribute [local irreducible] bS cz fu gK bG kr ag ar aQ aG
def alP(nodes:List Node)(next af at' own ino:Int)(n:Node)(h:gr nodes)(hn:nodes.length<=99999) :
  ar (ag aH) 266 [.agg (an n),.ptr 0 0,.ptr 1 0,.ptr 2 0,.ptr 3 0] (gy nodes next af at' own ino)=some (.bool (lk nodes at' own ino n),gy nodes next af at' own ino) :=
 eE (ids:=[0,1,2,3,4]) rfl rfl (U4 ..) rfl rfl (akJ nodes next af at' own ino n h hn) rfl rfl rfl rfl rfl
def BH(p:Node->Bool):List Node->Nat->Int
 | [],_ => -1
 |n::r,i=>if p n=true then i else BH p r (i+1)
def Fl(p:Node->Bool):∀(l:List Node)(i:Nat),decide ((0:Int)<=BH p l i)=l.any p
 | [],i=>by simp[BH]
 |n::r,i=>by
  unfold BH;cases h:p n with
  |true=>simp[h]
  |false=>simp only[Bool.false_eq_true,if_false,Fl p r (i+1),List.any_cons,h,Bool.false_or]
def Tf{nodes:List Node}{next af at' own ino:Int}(h:gr nodes)(hn:nodes.length<=99999){k:List K}{R:Int->Option (ae×aj)}
  (hx:∀e,kr (ag aH) [.tmp 4] 5 k ⟨.exit 0,e,gy nodes next af at' own ino⟩=R (-1)) (hr:∀(i:Nat),kr (ag aH) [.tmp 4] 5 k ⟨.ret,[(4,.int .i64 i)],gy nodes next af at' own ino⟩=R i) :
  ∀(l pre:List Node),nodes=pre++l->bS (ag aH) [.tmp 4] 5 k (.loop [0,1,7,8] SG) [(0,au nodes),(1,.func 266 [.ptr 0 0,.ptr 1 0,.ptr 2 0,.ptr 3 0]),(7,.int .i64 nodes.length),(8,.int .i64 pre.length)] (gy nodes next af at' own ino)=R (BH (lk nodes at' own ino) l pre.length):=by
 intro l;induction l with
 |nil =>
  intro pre h;rw[aC];simp only[CX,cQ h,EN,simprocAttr];exact hx _
 |cons n r ih =>
  intro pre hp;rw[aC];have hlen:pre.length+1<=100000:=by rw[hp] at hn; simp at hn; omega
  have hw:=ny pre n;have hi:=ih (pre++[n]) (by rw[hp]; simp)
  have hk:=alP nodes next af at' own ino n h hn
  simp only[List.length_append,List.length_cons,List.length_nil,Nat.zero_add,gy] at hi;simp only[gy] at hk;rw[BH];simp only[CX,gy,cv hp,bT hp,hk,tkN,shN,EN,simprocAttr];refine aB (fun hb=>?_) (fun hb=>?_)
  ·simp only[CX,hb,EN,simprocAttr];exact hr _
  ·simp only[CX,hb,hw,Bool.false_eq_true,EN,simprocAttr];exact hi
def akO(nodes:List Node)(next af at' own ino:Int)(h:gr nodes)(hn:nodes.length<=99999):ag aH 296 [au nodes,.func 266 [.ptr 0 0,.ptr 1 0,.ptr 2 0,.ptr 3 0]] (gy nodes next af at' own ino) =
  some (.int .i64 (BH (lk nodes at' own ino) nodes 0),gy nodes next af at' own ino):=by
 refine ai ?_;simp only[Lb,CX,EN,simprocAttr];exact Tf (R:=fun z=>some (.int .i64 z,gy nodes next af at' own ino)) h hn (fun e=>by simp only[CX,gy,EN,simprocAttr]) (fun i=>by simp only[CX,gy,EN,simprocAttr]) nodes [] rfl
def alS(nodes:List Node)(next af at' own ino:Int)(h:gr nodes)(hn:nodes.length<=99999):ar (ag aH) 296 [au nodes,.func 266 [.ptr 0 0,.ptr 1 0,.ptr 2 0,.ptr 3 0]] (gy nodes next af at' own ino) =
  some (.int .i64 (BH (lk nodes at' own ino) nodes 0),gy nodes next af at' own ino) :=
 eE (ids:=[0,1,2,3,4]) rfl rfl (U4 ..) rfl rfl (akO nodes next af at' own ino h hn) rfl rfl rfl rfl rfl
def akI(nodes:List Node)(next af at' own ino:Int)(h:gr nodes)(hn:nodes.length<=99999):ag aH 265 [au nodes,.func 266 [.ptr 0 0,.ptr 1 0,.ptr 2 0,.ptr 3 0]] (gy nodes next af at' own ino) =
  some (.bool (nodes.any (lk nodes at' own ino)),gy nodes next af at' own ino):=by
 refine ai ?_;have hk:=alS nodes next af at' own ino h hn
 simp only[gy] at hk;simp only[K7,aiq,gy,hk,Fl,EN,simprocAttr]
def alO(nodes:List Node)(next af at' own ino:Int)(h:gr nodes)(hn:nodes.length<=99999) :
  ar (ag aH) 265 [au nodes,.func 266 [.ptr 1 0,.ptr 3 0,.ptr 4 0,.ptr 2 0]] [.cells [au nodes,.int .i64 next,.int .i64 af],.cells [.ptr 0 0],.cells [.int .i64 ino],.cells [.int .i64 at'],.cells [.int .i64 own]] =
  some (.bool (nodes.any (lk nodes at' own ino)),[.cells [au nodes,.int .i64 next,.int .i64 af],.cells [.ptr 0 0],.cells [.int .i64 ino],.cells [.int .i64 at'],.cells [.int .i64 own]]) :=
 eE (ids:=[1,3,4,2,0]) rfl rfl (ahj ..) rfl rfl (akI nodes next af at' own ino h hn) rfl rfl rfl rfl rfl
def xV(nodes:List Node)(ino at':Int):Bool:=nodes.any (lk nodes at' (jU nodes ino) ino)
def akd(nodes:List Node)(next af ino at':Int)(h:gr nodes)(hn:nodes.length<=99999):ag aH 212 [.ptr 0 0,.int .i64 ino,.int .i64 at'] [.cells [au nodes,.int .i64 next,.int .i64 af]] =
  some (.bool (xV nodes ino at'),[.cells [au nodes,.int .i64 next,.int .i64 af]]):=by
 refine ai ?_;have hk:∀M,ar (ag aH) 254 [.ptr 0 0,.int .i64 ino] (.cells [au nodes,.int .i64 next,.int .i64 af]::M)=some (.int .i64 (jU nodes ino),.cells [au nodes,.int .i64 next,.int .i64 af]::M):=fun M=>aer nodes next af ino h (by omega) 0 (.cells [au nodes,.int .i64 next,.int .i64 af]::M) rfl
 have hd:=alO nodes next af at' (jU nodes ino) ino h hn
 unfold xV;simp only[KD,aid,hk,hd,EN,simprocAttr]
def alz(nodes:List Node)(next af ino at':Int)(h:gr nodes)(hn:nodes.length<=99999)(p:Nat)(M:aj)(hM:nth M p=some (.cells [au nodes,.int .i64 next,.int .i64 af])) :
  ar (ag aH) 212 [.ptr p 0,.int .i64 ino,.int .i64 at'] M=some (.bool (xV nodes ino at'),M):=by
 have:=gj hM (akd nodes next af ino at' h hn) rfl rfl rfl rfl rfl rfl rfl rfl rfl rfl
 rwa[gN hM] at this
end
section
attribute [local irreducible] bS cz fu gK bG kr ag ar aQ aG
def uH(l:List ct)(s:Bytes):cB (dB l s) s=none:=by
 unfold cB dB;rw[List.find?_eq_none];intro e he;have:=(List.mem_filter.1 he).2;simpa using this
def mW{l:List ct}{s r:Bytes}(h:cB l r=none):cB (dB l s) r=none:=by
 unfold cB dB at *;rw[List.find?_eq_none] at *;exact fun e he=>h e (List.mem_filter.1 he).1
def er{nodes:List Node}(h:gr nodes){dir:Int}{s:Bytes}{d:Node}(hf:find nodes dir=some d)(i:Int):find (bm nodes dir s) i=if i=dir then some { d with av:=dB d.av s } else find nodes i:=by
 have hd:=(bh hf).2;unfold bm;rw[hf];simp only[Option.getD_some];rw[cN h,show({ d with av:=dB d.av s }:Node).ino=dir from hd]
def Ae{nodes:List Node}(h:gr nodes)(n:Node):gr (ec nodes n):=by
 unfold ec;split
 ·exact js h _
 ·exact fA h _
def xB{nodes:List Node}(h:gr nodes)(n:Node){i:Int}(hi:i≠n.ino):find (ec nodes n) i=find nodes i:=by
 unfold ec;split
 ·rw[gI h,if_neg hi]
 ·rw[cN h,if_neg hi]
def Sz.ec{b:Nat}{t:Tree}(h:Sz b t){n:Node}(h1:n.av.length<=b+1)(h2:n.data.length<=100000)(next af:Int):Sz (b+1) ⟨ec t.nodes n,next,af⟩:=by
 unfold Go.Proofs.YtahkjijkflobhaaGreatDoor.ec;split
 ·exact(h.mo _ next af).up (by omega)
 ·exact h.with (n:={ n with bE:=fO (n.bE-1) }) h1 h2 next af
def qm(t:Tree)(dir:Int)(s:Bytes)(to:Int)(nm:Bytes)(ino:Int)(x y:Node)(there:Bool):Tree :=
 cW ⟨if (x.kind==2)=true then bJ (if there=true then ec (bm (bm t.nodes dir s) to nm) y else bm t.nodes dir s) { x with up:=to }
  else if there=true then ec (bm (bm t.nodes dir s) to nm) y else bm t.nodes dir s,t.next,t.af⟩ to nm ino
set_option maxHeartbeats 1000000 in
def Z2(nodes:List Node)(next af dir:Int)(s:Bytes)(to:Int)(nm:Bytes)(ino:Int)(x y:Node)(there:Bool)(v5 v140:ae)(B0 Bd:aM)(yr:List ae)(hyr:there=true->ae.int .i64 y.ino::yr=an y)(hz:Sz 1000 ⟨nodes,next,af⟩)(hr:jv ⟨nodes,next,af⟩){dd dt:Node}(hdir:find nodes dir=some dd)(hto:find nodes to=some dt)
  (hth:there=false->cB dt.av nm=none) (hx:(x.kind==2)=true->x.ino≠to) (hy:there=true->y.ino≠to) (hx1:x.av.length<=1000) (hx2:x.data.length<=100000) (hy1:y.av.length<=1000) (hy2:y.data.length<=100000) :
  bS (ag aH) [.bl 10 3,.tmp 11,.tmp 12] 0 [] FV [(1,.int .i64 dir),(2,.str s),(3,.int .i64 to),(4,.str nm),(5,v5),(10,.ptr 1 0),(13,.int .i64 ino),(15,.ptr 2 0),(17,.ptr 4 0),(19,.ptr 5 0),(21,.bool there),(140,v140)]
   [B0,.cells zT,.cells [au nodes,.int .i64 next,.int .i64 af],Bd,.cells (an x),.cells (.int .i64 y.ino::yr)]=some (.tuple [aA (qm ⟨nodes,next,af⟩ dir s to nm ino x y there),.int .i64 y.ino,.int .i64 0],[]):=by
 have hasc:gr nodes:=hr.hV;have n1:=hz.left dir s next af
 have a1:gr (bm nodes dir s):=(hr.left dir s next af).hV
 have e1:ja dd.av:=hr.av dd (bh hdir).1;have e2:ja dt.av:=hr.av dt (bh hto).1;have l1:dd.av.length<=1000:=hz.av dd (bh hdir).1;have l2:dt.av.length<=1000:=hz.av dt (bh hto).1
 obtain⟨d1,f1,g1,m1,q1⟩:∃d1,find (bm nodes dir s) to=some d1/\ja d1.av/\d1.av.length<=1000/\(cB dt.av nm=none->cB d1.av nm=none):=by
  rw[er hasc hdir];split
  ·rename_i he;subst he;rw[hdir] at hto; cases hto;exact⟨_,rfl,tu e1 s,Nat.le_trans (tv _ _) l1,mW⟩
  ·exact⟨dt,hto,e2,l2,id⟩
 have hv1:=fun a b M=>Xm nodes next af dir s hasc (hz.small (by omega)).nodes hdir e1 (by omega) 2 (a::b :: .cells [au nodes,.int .i64 next,.int .i64 af]::M) rfl
 have fin:∀(n3:List Node)(d3:Node),gr n3->Sz 1003 ⟨n3,next,af⟩->find n3 to=some d3->ja d3.av->d3.av.length<=1000->cB d3.av nm=none ->
   (∀a b M,ar (ag aH) 198 [.ptr 2 0,.int .i64 to,.str nm,.int .i64 ino] (a::b :: .cells [au n3,.int .i64 next,.int .i64 af]::M)=some (.tuple [],a::b :: .cells (ak (cW ⟨n3,next,af⟩ to nm ino))::M)) /\
   ((x.kind==2)=true->(∀a b M,ar (ag aH) 197 [.ptr 2 0,.agg [.int .i64 x.ino,.int .i64 x.kind,.int .i64 x.bE,bc x.data,cT x.av,.int .i64 to]] (a::b :: .cells [au n3,.int .i64 next,.int .i64 af]::M) =
     some (.tuple [],a::b :: .cells [au (bJ n3 { x with up:=to }),.int .i64 next,.int .i64 af]::M)) /\
    ∀a b M,ar (ag aH) 198 [.ptr 2 0,.int .i64 to,.str nm,.int .i64 ino] (a::b :: .cells [au (bJ n3 { x with up:=to }),.int .i64 next,.int .i64 af]::M)=some (.tuple [],a::b :: .cells (ak (cW ⟨bJ n3 { x with up:=to },next,af⟩ to nm ino))::M)):=by
  intro n3 d3 b1 b2 b3 b4 b5 b6;have h0:n3≠[]:=by rintro rfl; simp[find] at b3
  refine⟨fun a b M=>RN n3 next af to nm ino b1 (b2.small (by omega)).nodes b3 b4 (by omega) b6 2 (a::b :: .cells [au n3,.int .i64 next,.int .i64 af]::M) rfl,fun hk=>⟨fun a b M=>DX n3 next af x.ino x.kind x.bE x.data x.av to b1 h0 (b2.small (by omega)).nodes 2 (a::b :: .cells [au n3,.int .i64 next,.int .i64 af]::M) rfl,fun a b M=>?_⟩⟩
  have b7:Sz 1004 ⟨bJ n3 { x with up:=to },next,af⟩:=b2.with (n:={ x with up:=to }) (Nat.le_trans hx1 (by omega)) hx2 next af
  have b8:find (bJ n3 { x with up:=to }) to=some d3:=by rw[cN b1,if_neg (fun he=>hx hk he.symm)]; exact b3
  exact RN (bJ n3 { x with up:=to }) next af to nm ino (fA b1 _) (b7.small (by omega)).nodes b8 b4 (by omega) b6 2 (a::b :: .cells [au (bJ n3 { x with up:=to }),.int .i64 next,.int .i64 af]::M) rfl
 cases hth':there with
 |false =>
  obtain⟨w1,w2⟩:=fin (bm nodes dir s) d1 a1 (n1.up (by omega)) f1 g1 m1 (q1 (hth hth'))
  cases hkx:(x.kind==2) with
  |false =>
   simp only[qP,hv1,zT,an,hkx,w1,ak,EN,simprocAttr];simp only[qm,hkx,aA,ak,iw,↓reduceIte,reduceCtorEq,bne_self_eq_false]
  |true =>
   obtain⟨w3,w4⟩:=w2 hkx;simp only[qP,hv1,zT,an,hkx,w3,w4,ak,EN,simprocAttr];simp only[qm,hkx,aA,ak,iw,↓reduceIte,reduceCtorEq,bne_self_eq_false]
 |true =>
  have hyr':yr=[.int .i64 y.kind,.int .i64 y.bE,bc y.data,cT y.av,.int .i64 y.up]:=by have:=hyr hth'; simpa[an] using this
  subst hyr';have a2:gr (bm (bm nodes dir s) to nm):=(jv.left (t:=⟨bm nodes dir s,next,af⟩) (hr.left dir s next af) to nm next af).hV
  have n2:=n1.left to nm next af
  have f2:find (bm (bm nodes dir s) to nm) to=some { d1 with av:=dB d1.av nm }:=by rw[er a1 f1,if_pos rfl]
  have hv2:=fun a b M=>Xm (bm nodes dir s) next af to nm a1 (n1.small (by omega)).nodes f1 g1 (by omega) 2 (a::b :: .cells [au (bm nodes dir s),.int .i64 next,.int .i64 af]::M) rfl
  have hu:=fun a b M=>aei (bm (bm nodes dir s) to nm) next af y.ino y.kind y.bE y.data y.av y.up a2 (BX a1 f1) (n2.small (by omega)).nodes 2 (a::b :: .cells [au (bm (bm nodes dir s) to nm),.int .i64 next,.int .i64 af]::M) rfl
  have f3:find (ec (bm (bm nodes dir s) to nm) y) to=some { d1 with av:=dB d1.av nm }:=by rw[xB a2 y (fun he=>hy hth' he.symm)]; exact f2
  obtain⟨w1,w2⟩:=fin (ec (bm (bm nodes dir s) to nm) y) { d1 with av:=dB d1.av nm } (Ae a2 y) (n2.ec (Nat.le_trans hy1 (by omega)) hy2 next af) f3 (tu g1 nm) (Nat.le_trans (tv _ _) m1) (uH _ _)
  cases hkx:(x.kind==2) with
  |false =>
   simp only[qP,hv1,hv2,hu,zT,an,hkx,w1,ak,EN,simprocAttr];simp only[qm,hkx,aA,ak,iw,↓reduceIte,reduceCtorEq,bne_self_eq_false]
  |true =>
   obtain⟨w3,w4⟩:=w2 hkx;simp only[qP,hv1,hv2,hu,zT,an,hkx,w3,w4,ak,EN,simprocAttr];simp only[qm,hkx,aA,ak,iw,↓reduceIte,reduceCtorEq,bne_self_eq_false]
def fb(nodes:List Node)(l:List ct)(s:Bytes):Node:=match cB l s with
 |none=>Node.zero
 |some e=>aD nodes e.ino
def wN(t:Tree)(dir to:Int)(av:List ct)(there:Bool)(kind ino:Int):Bool :=
 ((!there&&to != dir)&&decide ((64:Int)<=av.length))||(decide ((12:Int)<(kP t.nodes to).length)||((kind==2&&xV t.nodes ino (kP t.nodes to).length)||decide ((1099511627776:Int)<=t.af)))
def FJ(t:Tree)(dir:Int)(s:Bytes)(to:Int)(nm:Bytes):Tree×Int×Int :=
 if ((bM t.nodes dir s).2 != 0)=true then (t,0,(bM t.nodes dir s).2) else
 if ((cK t.nodes to).2 != 0)=true then (t,0,(cK t.nodes to).2) else
 if (!cr nm)=true then (t,0,60) else
 if ((fb t.nodes (cK t.nodes to).1.av nm).ino==(bM t.nodes dir s).1)=true then (t,0,0) else
 if ((aD t.nodes (bM t.nodes dir s).1).kind==2&&(kP t.nodes to).contains (bM t.nodes dir s).1)=true then (t,0,75) else
 if ((cB (cK t.nodes to).1.av nm).isSome&&sq (aD t.nodes (bM t.nodes dir s).1) (fb t.nodes (cK t.nodes to).1.av nm) != 0)=true then (t,0,sq (aD t.nodes (bM t.nodes dir s).1) (fb t.nodes (cK t.nodes to).1.av nm)) else
 if wN t dir to (cK t.nodes to).1.av (cB (cK t.nodes to).1.av nm).isSome (aD t.nodes (bM t.nodes dir s).1).kind (bM t.nodes dir s).1=true then (t,0,76) else
 (qm t dir s to nm (bM t.nodes dir s).1 (aD t.nodes (bM t.nodes dir s).1) (fb t.nodes (cK t.nodes to).1.av nm) (cB (cK t.nodes to).1.av nm).isSome,(fb t.nodes (cK t.nodes to).1.av nm).ino,0)
def aek(a b c:Int)(d:Bytes)(e:List ct)(u:Int)(a' b' c':Int)(d':Bytes)(e':List ct)(u':Int)(M:aj):ar (ag aH) 211 [.agg [.int .i64 a,.int .i64 b,.int .i64 c,bc d,cT e,.int .i64 u],.agg [.int .i64 a',.int .i64 b',.int .i64 c',bc d',cT e',.int .i64 u']] M=some (.int .i64 (sq ⟨a,b,c,d,e,u⟩ ⟨a',b',c',d',e',u'⟩),M) :=
 cO (akc ⟨a,b,c,d,e,u⟩ ⟨a',b',c',d',e',u'⟩) M
def Qp(nodes:List Node)(to:Int):(kP nodes to).contains to=true:=by
 have key:∀(m:Nat)(ino:Int)(out:List Int),out.contains to=true->(lP nodes m ino out).contains to=true:=by
  intro m;induction m with
  |zero=>intro ino out h; exact h
  |succ m ih =>
   intro ino out h;rw[lP];split
   ·split
    ·exact h
    ·exact ih _ _ (by simp at h ⊢; exact .inl h)
   ·exact h
 exact key _ _ _ (by simp)
def OY{nodes:List Node}{i:Int}(h:(aD nodes i).kind=2):(aD nodes i).ino=i:=by
 cases hf:find nodes i with
 |none=>simp[aD,hf,Node.zero] at h
 |some n=>simp[aD,hf]; exact(bh hf).2
set_option maxHeartbeats 4000000 in
def ajc(t:Tree)(dir:Int)(s:Bytes)(to:Int)(nm:Bytes)(hz:Sz 1000 t)(hr:jv t)(hs:s.length<=100000)(ha:gu s)(hs':nm.length<=100000)(ha':gu nm)
  (Qs:∀e,cB (cK t.nodes to).1.av nm=some e->(aD t.nodes e.ino).ino≠to) :
  ag aH 131 [aA t,.int .i64 dir,.str s,.int .i64 to,.str nm] []=some (.tuple [aA (FJ t dir s to nm).1,.int .i64 (FJ t dir s to nm).2.1,.int .i64 (FJ t dir s to nm).2.2],[]):=by
 obtain⟨Q,hQ⟩:∃Q,FV=Q:=⟨_,rfl⟩;obtain⟨nodes,next,af⟩:=t
 have ht:Small ⟨nodes,next,af⟩:=hz.small (by omega)
 have hn:nodes.length<=100000:=ht.nodes;have hasc:gr nodes:=hr.hV;have hl:=fun M=>RH nodes next af dir s ht hr hs ha M
 have hg:=fun i b c M=>xF nodes next af i hasc hn 2 (b::c :: .cells [au nodes,.int .i64 next,.int .i64 af]::M) rfl
 have hd:=fun b c M=>RO nodes next af to hasc hn 2 (b::c :: .cells [au nodes,.int .i64 next,.int .i64 af]::M) rfl
 have hup:=fun b c M=>Xo nodes next af to hasc hn 2 (b::c :: .cells [au nodes,.int .i64 next,.int .i64 af]::M) rfl
 have hul:=lQ nodes to;have hn1:nodes.length<=1000:=hz.nodes;have hc:=fun x M=>aej (kP nodes to) x (by omega) M
 have hdp:=fun i a b c M=>alz nodes next af i a hasc (by omega) 2 (b::c :: .cells [au nodes,.int .i64 next,.int .i64 af]::M) rfl
 have hE:ja (cK nodes to).1.av:=hr.dir to;have hde:(cK nodes to).1.av.length<=100000:=kU ht to;have hen:=fun a b c d u M=>LC a b c d (cK nodes to).1.av u nm _ (jQ hE nm) hde M
 refine ai ?_;simp only[JM,qP,hQ,aA,ak,hl,EN,simprocAttr];refine aB (fun hb0=>?_) (fun hb0=>?_)
 ·simp only[qP,hQ,hb0,EN,simprocAttr];clear hl hg hd hup hc hdp hen Qs;simp_all only[FJ,aA,ak,iw,↓reduceIte,reduceCtorEq,bne_self_eq_false]
 simp only[qP,hQ,hb0,hd,aF,an,EN,simprocAttr];refine aB (fun hb1=>?_) (fun hb1=>?_)
 ·simp only[qP,hQ,hb1,EN,simprocAttr];clear hl hg hd hup hc hdp hen Qs;simp_all only[FJ,aA,ak,iw,↓reduceIte,reduceCtorEq,bne_self_eq_false]
 simp only[qP,hQ,hb1,Xn,hs',ha',EN,simprocAttr];refine aB (fun hb2=>?_) (fun hb2=>?_)
 ·simp only[qP,hQ,hb2,EN,simprocAttr];clear hl hg hd hup hc hdp hen Qs;simp_all only[FJ,aA,ak,iw,↓reduceIte,reduceCtorEq,bne_self_eq_false]
 simp only[qP,hQ,hb2,hg,hen,aF,an,EN,simprocAttr];obtain⟨dd,de,e1,e2,e3,e4,e5⟩:=look_ok hb0;obtain⟨dt,g1,g2,g3⟩:=qW (show(cK nodes to).2=0 by simpa using hb1)
 have hx0:=hz.find (bM nodes dir s).1;have tail:=fun there y yr hyr hth hy hy1 hy2 v5 v140 B0 Bd hxx=>Z2 nodes next af dir s to nm (bM nodes dir s).1 (aD nodes (bM nodes dir s).1) y there v5 v140 B0 Bd yr hyr hz hr e1 g1 hth hxx hy hx0.1 hx0.2 hy1 hy2
 have hxne:((aD nodes (bM nodes dir s).1).kind==2)=true->(kP nodes to).contains (bM nodes dir s).1=false->(aD nodes (bM nodes dir s).1).ino≠to:=fun h1 h2 h3=>by
  rw[OY (by simpa using h1)] at h3
  rw[h3,Qp] at h2; cases h2
 have hdte:dt.av=(cK nodes to).1.av:=by rw[g3]
 rcases oD hE nm with ⟨h1,o,h2,h3,h4⟩|⟨h1,h2⟩
 ·have hnu:fb nodes (cK nodes to).1.av nm=aD nodes o.ino:=by simp[fb,h3]
  have hy0:=hz.find o.ino;have tl:=tail true (aD nodes o.ino) _ (fun _=>rfl) (by simp) (fun _=>Qs o h3) hy0.1 hy0.2
  simp only[an,zT] at tl;simp only[qP,hQ,h1,h2,hg,aF,an,bU,EN,simprocAttr]
  repeat' ((first|refine aB (fun hb=>?_) (fun hb=>?_)|refine aJ (fun hb=>?_) (fun hb=>?_)|refine bp (fun hb=>?_) (fun hb=>?_))<;>simp only[hb,EN,qP,hQ,hup,hc,hdp,aek,simprocAttr])
  all_goals try (clear hl hg hd hup hc hdp hen Qs tail tl hxne e5 g3; simp_all only[FJ,wN,aA,ak,Option.isSome_some,iw,↓reduceIte,reduceCtorEq,bne_self_eq_false]; done)
  all_goals
   subst hQ;refine(tl _ _ _ _ (fun hk=>by first|exact hxne hk (by assumption)|(exfalso; simp_all; done))).trans ?_
   have hmv:FJ ⟨nodes,next,af⟩ dir s to nm=(qm ⟨nodes,next,af⟩ dir s to nm (bM nodes dir s).1 (aD nodes (bM nodes dir s).1) (aD nodes o.ino) true,(aD nodes o.ino).ino,0):=by
    clear hl hg hd hup hc hdp hen Qs tail tl hxne e5 g3;simp_all only[FJ,wN,Option.isSome_some,iw,↓reduceIte,reduceCtorEq,bne_self_eq_false]
   rw[hmv];rfl
 ·have hnu:fb nodes (cK nodes to).1.av nm=Node.zero:=by simp[fb,h2]
  have tl:=tail false Node.zero [.int .i64 0,.int .i64 0,.slice .c0 [],.slice .c0 [],.int .i64 0] (by simp) (fun _=>by rw[hdte]; exact h2) (by simp) (by simp[Node.zero]) (by simp[Node.zero])
  have hz0:Node.zero.ino=0:=rfl;simp only[an,zT,hz0] at tl;simp only[qP,hQ,h1,EN,simprocAttr]
  repeat' ((first|refine aB (fun hb=>?_) (fun hb=>?_)|refine aJ (fun hb=>?_) (fun hb=>?_)|refine bp (fun hb=>?_) (fun hb=>?_))<;>simp only[hb,EN,qP,hQ,hup,hc,hdp,aek,simprocAttr])
  all_goals try (clear hl hg hd hup hc hdp hen Qs tail tl hxne e5 g3; simp_all only[FJ,wN,aA,ak,Option.isSome_none,iw,↓reduceIte,reduceCtorEq,bne_self_eq_false]; done)
  all_goals
   subst hQ;refine(tl _ _ _ _ (fun hk=>by first|exact hxne hk (by assumption)|(exfalso; simp_all; done))).trans ?_
   have hmv:FJ ⟨nodes,next,af⟩ dir s to nm=(qm ⟨nodes,next,af⟩ dir s to nm (bM nodes dir s).1 (aD nodes (bM nodes dir s).1) Node.zero false,0,0):=by
    clear hl hg hd hup hc hdp hen Qs tail tl hxne e5 g3;simp_all only[FJ,wN,Option.isSome_none,iw,↓reduceIte,reduceCtorEq,bne_self_eq_false]
   rw[hmv];rfl
end
def jg(l:List ct)(i:Int):Nat:=l.countP fun e=>e.ino==i
def mB(ns:List Node)(i:Int):Nat:=(ns.map fun n=>jg n.av i).sum
def rP(i:Int):jg [] i=0:=rfl
def rO(a b:List ct)(i:Int):jg (a++b) i=jg a i+jg b i:=List.countP_append
def xT(e:ct)(l:List ct)(i:Int):jg (e::l) i=jg l i+(if e.ino=i then 1 else 0):=by simp[jg,List.countP_cons]
def pB(a b:List Node)(i:Int):mB (a++b) i=mB a i+mB b i:=by simp[mB]
def mS(n:Node)(l:List Node)(i:Int):mB (n::l) i=jg n.av i+mB l i:=by simp[mB]
def mT{ns:List Node}(h:gr ns)(n:Node)(i:Int):mB (bJ ns n) i+jg (aD ns n.ino).av i=mB ns i+jg n.av i:=by
 rcases ky h n.ino with ⟨_,o,h2,h3,h4⟩|⟨_,h2⟩
 ·rw[kX h h2 h4];obtain⟨s1,s2⟩:=pN (n:=n) h2
  have e1:mB ns i=mB (ns.take (eO ns n.ino)) i+(jg o.av i+mB (ns.drop (eO ns n.ino+1)) i):=by
   rw[<-mS,<-pB,<-s1]
  rw[s2,pB,mS,e1];simp only[aD,h3,Option.getD_some];omega
 ·rw[pR h h2]
  have e1:mB ns i=mB (ns.take (eO ns n.ino)) i+mB (ns.drop (eO ns n.ino)) i:=by
   rw[<-pB,List.take_append_drop]
  rw[pB,mS,e1];simp only[aD,h2,Option.getD_none,Node.zero,rP];omega
def zo{ns:List Node}(h:gr ns)(k i:Int):mB (db ns k) i+jg (aD ns k).av i=mB ns i:=by
 rcases ky h k with ⟨_,o,h2,h3,h4⟩|⟨_,h2⟩
 ·rw[sZ h h2 h4];obtain⟨s1,_⟩:=pN (n:=o) h2
  have e1:mB ns i=mB (ns.take (eO ns k)) i+(jg o.av i+mB (ns.drop (eO ns k+1)) i):=by
   rw[<-mS,<-pB,<-s1]
  rw[pB,e1];simp only[aD,h3,Option.getD_some];omega
 ·rw[qF h2];simp only[aD,h2,Option.getD_none,Node.zero,rP];omega
def AV{l:List ct}{i:Int}:0<jg l i↔∃e,e∈l/\e.ino=i:=by simp[jg,List.countP_pos_iff]
def pC{i:Int}:∀ {ns:List Node},0<mB ns i↔∃n e,n∈ns/\e∈n.av/\e.ino=i
 | []=>by simp[mB]
 |n::ns=>by
  rw[mS];constructor
  ·intro h;rcases Nat.eq_zero_or_pos (jg n.av i) with h0|h0
   ·obtain⟨m,e,h1,h2,h3⟩:=(pC (i:=i) (ns:=ns)).1 (by omega)
    exact⟨m,e,List.mem_cons_of_mem _ h1,h2,h3⟩
   ·obtain⟨e,h1,h2⟩:=AV.1 h0;exact⟨n,e,List.mem_cons_self,h1,h2⟩
  ·rintro⟨m,e,h1,h2,h3⟩;rcases List.mem_cons.1 h1 with rfl|h1
   ·have:=AV.2 ⟨e,h2,h3⟩; omega
   ·have:=(pC (i:=i) (ns:=ns)).2 ⟨m,e,h1,h2,h3⟩; omega
def OW{l:List ct}(h:ja l){e:ct}(hf:cB l e.name=none){x:ct}:x∈ra l e↔x=e\/x∈l:=by
 rw[na h hf];have:x∈l↔x∈l.take (fa l e.name)\/x∈l.drop (fa l e.name):=by rw[<-List.mem_append,List.take_append_drop]
 rw[this,List.mem_append,List.mem_cons];constructor
 ·rintro(h|h|h)
  ·exact .inr (.inl h)
  ·exact .inl h
  ·exact .inr (.inr h)
 ·rintro(h|h|h)
  ·exact .inr (.inl h)
  ·exact .inl h
  ·exact .inr (.inr h)
def GJ{l:List ct}(h:ja l){e:ct}(hf:cB l e.name=none)(i:Int):jg (ra l e) i=jg l i+(if e.ino=i then 1 else 0):=by
 rw[na h hf,rO,xT];have:jg l i=jg (l.take (fa l e.name)) i+jg (l.drop (fa l e.name)) i:=by rw[<-rO,List.take_append_drop]
 omega
def Hu{l:List ct}{s:Bytes}{x:ct}:x∈dB l s↔x∈l/\x.name≠s:=by simp[dB,List.mem_filter]
def Eo{l:List ct}{b:Nat}{o:ct}(ho:l[b]?=some o):l=l.take b++o::l.drop (b+1):=by
 have hlt:=(List.getElem?_eq_some_iff.1 ho).1;rw[List.getElem?_eq_getElem hlt] at ho; injection ho with ho
 conv=>lhs; rw[<-List.take_append_drop b l]
 rw[List.drop_eq_getElem_cons hlt,ho]
def Du{l:List ct}(h:ja l){s:Bytes}{o:ct}(hf:cB l s=some o)(i:Int):jg (dB l s) i+(if o.ino=i then 1 else 0)=jg l i:=by
 rcases oD h s with ⟨_,o',h2,h3,h4⟩|⟨_,h2⟩
 ·rw[hf] at h3; cases h3;rw[xX h h2 h4]
  have e1:jg l i=jg (l.take (fa l s)) i+(jg (l.drop (fa l s+1)) i+(if o.ino=i then 1 else 0)):=by
   rw[<-xT,<-rO,<-Eo h2]
  rw[rO,e1];omega
 ·rw[hf] at h2; cases h2
def pH{ns:List Node}(h:gr ns){n o:Node}(hf:find ns n.ino=some o):(bJ ns n).length=ns.length:=by
 rcases ky h n.ino with ⟨_,o,h2,h3,h4⟩|⟨_,h2⟩
 ·rw[kX h h2 h4,List.length_set]
 ·rw[hf] at h2; cases h2
def Nm(s:Bytes):Prop:=cr s=true
structure bK(t:Tree)(dep:Int->Nat)(x:Int):Prop where
 fN:jv t
 root:∃r,find t.nodes 1=some r/\r.kind=2/\r.up=1
 num:∀i n,find t.nodes i=some n->1<=i/\i<t.next
 kind:∀i n,find t.nodes i=some n->n.kind=1\/n.kind=2
 file:∀i n,find t.nodes i=some n->n.kind=1->n.av=[]/\n.up=0/\n.data.length<=4096
 dir:∀i n,find t.nodes i=some n->n.kind=2->n.data=[]
 vZ:∀i n e,find t.nodes i=some n->e∈n.av->1<=e.af/\e.af<t.af/\e.ino≠1/\Nm e.name/\∃m,find t.nodes e.ino=some m/\(m.kind=2->m.up=i)
 pV:∀i n,find t.nodes i=some n->(n.av.Pairwise fun a b=>a.af≠b.af)/\n.av.length<=64
 bE:∀i n,find t.nodes i=some n->n.bE=(mB t.nodes i:Int)+(if i=x then 1 else 0)
 one:∀i n,find t.nodes i=some n->n.kind=2->i≠1->n.bE=1
 AX:dep 1=0
 oq:∀i n,find t.nodes i=some n->n.kind=2->i≠1->dep i=dep n.up+1/\∃p,find t.nodes n.up=some p/\p.kind=2
 deep:∀i n,find t.nodes i=some n->n.kind=2->dep i<=12/\(dep i=12->n.av=[])
 nodes:t.nodes.length<=200
 next:t.next<=1099511627776
 af:1<=t.af/\t.af<=1099511627776
def bK.ino{t:Tree}{dep:Int->Nat}{x:Int}(_:bK t dep x){i:Int}{n:Node}(hf:find t.nodes i=some n):n.ino=i:=(bh hf).2
theorem bK.cH{t t':Tree}{dep:Int->Nat}{x x' d:Int}{n n':Node}(h:bK t dep x)(hs:jv t')(hd:find t.nodes d=some n)
  (hf:∀i,find t'.nodes i=if i=d then some n' else find t.nodes i) (hk:n'.kind=n.kind) (hu:n'.up=n.up)
  (hfile:n.kind=1->n'.av=[]/\n'.data.length<=4096) (hdir:n.kind=2->n'.data=[])
  (hent:∀e,e∈n'.av->1<=e.af/\e.af<t'.af/\e.ino≠1/\Nm e.name/\∃m,find t.nodes e.ino=some m/\(m.kind=2->m.up=d))
  (hcook:(n'.av.Pairwise fun a b=>a.af≠b.af)/\n'.av.length<=64)
  (hc:∀i,1<=i->(mB t'.nodes i:Int)+(if i=x' then 1 else 0)=mB t.nodes i+(if i=x then 1 else 0)+(if i=d then n'.bE-n.bE else 0))
  (h1:n.kind=2->n'.bE=n.bE) (hdeep:dep d=12->n'.av=[]) (hn:t'.nodes.length<=200) (hnx:t'.next=t.next) (hck:t.af<=t'.af) (hck':t'.af<=1099511627776):bK t' dep x':=by
 have jc:∀j m,find t.nodes j=some m->∃m',find t'.nodes j=some m'/\m'.kind=m.kind/\m'.up=m.up:=by
  intro j m hm;rw[hf];split
  ·rename_i he;subst he;rw[hd] at hm; cases hm;exact⟨n',rfl,hk,hu⟩
  ·exact⟨m,hm,rfl,rfl⟩
 have back:∀j m',find t'.nodes j=some m'->(j=d/\m'=n')\/(j≠d/\find t.nodes j=some m'):=by
  intro j m' hm;rw[hf] at hm;split at hm
  ·rename_i he; injection hm with hm; exact .inl ⟨he,hm.symm⟩
  ·rename_i he; exact .inr ⟨he,hm⟩
 refine⟨hs,?_,?_,?_,?_,?_,?_,?_,?_,?_,h.AX,?_,?_,hn,by rw[hnx]; exact h.next,⟨by have:=h.af.1; omega,hck'⟩⟩
 ·obtain⟨r,h1,h2,h3⟩:=h.root;obtain⟨r',k1,k2,k3⟩:=jc _ _ h1;exact⟨r',k1,by omega,by omega⟩
 ·intro i m hm;rw[hnx];rcases back i m hm with ⟨rfl,rfl⟩|⟨_,hm⟩
  ·exact h.num _ _ hd
  ·exact h.num _ _ hm
 ·intro i m hm;rcases back i m hm with ⟨rfl,rfl⟩|⟨_,hm⟩
  ·rw[hk]; exact h.kind _ _ hd
  ·exact h.kind _ _ hm
 ·intro i m hm hk1;rcases back i m hm with ⟨rfl,rfl⟩|⟨_,hm⟩
  ·rw[hk] at hk1;exact⟨(hfile hk1).1,by rw[hu]; exact(h.file _ _ hd hk1).2.1,(hfile hk1).2⟩
  ·exact h.file _ _ hm hk1
 ·intro i m hm hk1;rcases back i m hm with ⟨rfl,rfl⟩|⟨_,hm⟩
  ·rw[hk] at hk1;exact hdir hk1
  ·exact h.dir _ _ hm hk1
 ·intro i m e hm he
  have key:∀m,find t.nodes e.ino=some m/\(m.kind=2->m.up=i)->∃m,find t'.nodes e.ino=some m/\(m.kind=2->m.up=i):=by
   rintro m ⟨k1,k2⟩;obtain⟨m',j1,j2,j3⟩:=jc _ _ k1;exact⟨m',j1,fun hk=>by rw[j3]; exact k2 (by omega)⟩
  rcases back i m hm with ⟨rfl,rfl⟩|⟨_,hm⟩
  ·obtain⟨a1,a2,a3,a4,k,a5⟩:=hent e he;exact⟨a1,a2,a3,a4,key k a5⟩
  ·obtain⟨a1,a2,a3,a4,k,a5⟩:=h.vZ _ _ e hm he;exact⟨a1,by omega,a3,a4,key k a5⟩
 ·intro i m hm;rcases back i m hm with ⟨rfl,rfl⟩|⟨_,hm⟩
  ·exact hcook
  ·exact h.pV _ _ hm
 ·intro i m hm;rcases back i m hm with ⟨rfl,rfl⟩|⟨hne,hm⟩
  ·have:=hc i (h.num _ _ hd).1;have:=h.bE _ _ hd;simp only[↓reduceIte] at *;omega
  ·have:=hc i (h.num _ _ hm).1;have:=h.bE _ _ hm;simp only[hne,↓reduceIte] at *;omega
 ·intro i m hm hk1 hi;rcases back i m hm with ⟨rfl,rfl⟩|⟨_,hm⟩
  ·rw[hk] at hk1;rw[h1 hk1]; exact h.one _ _ hd hk1 hi
  ·exact h.one _ _ hm hk1 hi
 ·intro i m hm hk1 hi;rcases back i m hm with ⟨rfl,rfl⟩|⟨_,hm⟩
  ·rw[hk] at hk1;obtain⟨a,p,b,c⟩:=h.oq _ _ hd hk1 hi;obtain⟨p',k1,k2,_⟩:=jc _ _ b;rw[hu]; exact⟨a,p',k1,by omega⟩
  ·obtain⟨a,p,b,c⟩:=h.oq _ _ hm hk1 hi;obtain⟨p',k1,k2,_⟩:=jc _ _ b;exact⟨a,p',k1,by omega⟩
 ·intro i m hm hk1;rcases back i m hm with ⟨rfl,rfl⟩|⟨_,hm⟩
  ·rw[hk] at hk1;exact⟨(h.deep _ _ hd hk1).1,hdeep⟩
  ·exact h.deep _ _ hm hk1
def bK.left{t:Tree}{dep:Int->Nat}{d:Int}{n:Node}{s:Bytes}{e:ct}(h:bK t dep 0)(hd:find t.nodes d=some n)(he:cB n.av s=some e):bK ⟨bm t.nodes d s,t.next,t.af⟩ dep e.ino:=by
 have hE:ja n.av:=h.fN.av n (bh hd).1;have hi:n.ino=d:=h.ino hd;have hem:=dH he;have hw:bm t.nodes d s=bJ t.nodes { n with av:=dB n.av s }:=by simp[bm,hd]
 have hc:∀i,mB (bm t.nodes d s) i+(if e.ino=i then 1 else 0)=mB t.nodes i:=by
  intro i;have h1:=mT h.fN.hV { n with av:=dB n.av s } i
  have h2:=Du hE he i;rw[hw];have h3:aD t.nodes n.ino=n:=by simp only[aD,hi,hd,Option.getD_some]
  simp only[h3] at h1;omega
 refine h.cH (h.fN.left d s t.next t.af) hd (er h.fN.hV hd) rfl rfl ?_ ?_ ?_ ?_ ?_ (fun _=>rfl) ?_ ?_ rfl (Int.le_refl _) h.af.2
 ·intro hk;obtain⟨h1,_,h3⟩:=h.file _ _ hd hk;exact⟨by simp[h1,dB],h3⟩
 ·exact h.dir _ _ hd
 ·intro x hx;exact h.vZ _ _ x hd (Hu.1 hx).1
 ·exact⟨List.Pairwise.filter _ (h.pV _ _ hd).1,Nat.le_trans (List.length_filter_le _ _) (h.pV _ _ hd).2⟩
 ·intro i h0;have h1:=hc i;rw[if_neg (show i≠0 by omega)]
  have e1:(if i=d then (n.bE-n.bE:Int) else 0)=0:=by split<;>omega
  simp only[e1]
  by_cases h0:i=e.ino
  ·subst h0;simp only[↓reduceIte] at h1 ⊢;omega
  ·rw[if_neg (fun hh=>h0 hh.symm)] at h1
   rw[if_neg h0];omega
 ·intro h12;have:=(h.deep _ _ hd ?_).2 h12
  ·simp[this,dB]
  ·rcases h.kind _ _ hd with hk|hk
   ·have:=(h.file _ _ hd hk).1;rw[this] at hem; cases hem.1
   ·exact hk
 ·show(bm t.nodes d s).length<=200
  rw[hw,pH h.fN.hV (o:=n) (by simp only[hi]; exact hd)]
  exact h.nodes
def bK.fR{t:Tree}{dep:Int->Nat}{x d:Int}{n m:Node}{s:Bytes}(h:bK t dep x)(hd:find t.nodes d=some n)(hk:n.kind=2)(he:cB n.av s=none)(h64:n.av.length<64)(hnm:Nm s)
  (hx:find t.nodes x=some m) (hx1:x≠1) (hup:m.kind=2->m.up=d) (hdp:dep d<12) (hck:t.af<1099511627776):bK (cW t d s x) dep 0:=by
 have hE:ja n.av:=h.fN.av n (bh hd).1;have hi:n.ino=d:=h.ino hd;have hcw:fO (t.af+1)=t.af+1:=cL (by have:=h.af; omega) (by omega)
 have hw:cW t d s x=⟨bJ t.nodes { n with av:=ra n.av ⟨s,x,t.af⟩ },t.next,t.af+1⟩:=by simp only[cW,hd,Option.getD_some,hcw]
 have hfn:cB n.av (ct.mk s x t.af).name=none:=he
 have hc:∀i,mB (cW t d s x).nodes i=mB t.nodes i+(if x=i then 1 else 0):=by
  intro i;have h1:=mT h.fN.hV { n with av:=ra n.av ⟨s,x,t.af⟩ } i
  have h2:=GJ hE hfn i;rw[hw];have h3:aD t.nodes n.ino=n:=by simp only[aD,hi,hd,Option.getD_some]
  simp only[h3] at h1 h2 ⊢;omega
 have hff:∀i,find (cW t d s x).nodes i=if i=d then some { n with av:=ra n.av ⟨s,x,t.af⟩ } else find t.nodes i:=by
  intro i;rw[hw];have:=cN h.fN.hV { n with av:=ra n.av ⟨s,x,t.af⟩ } i
  rw[this];simp only[hi]
 refine h.cH (h.fN.fR d s x (by simp[aD,hd,he])) hd hff rfl rfl ?_ ?_ ?_ ?_ ?_ (fun _=>rfl) ?_ ?_ ?_ ?_ ?_
 ·intro hk1; omega
 ·exact h.dir _ _ hd
 ·intro e hem;rw[hw];rcases(OW hE hfn).1 hem with rfl|hem
  ·exact⟨h.af.1,by simp only; omega,hx1,hnm,m,hx,hup⟩
  ·obtain⟨a1,a2,a3,a4,a5⟩:=h.vZ _ _ e hd hem;exact⟨a1,by simp only; omega,a3,a4,a5⟩
 ·refine⟨?_,by simp only[na hE hfn,List.length_append,List.length_cons,List.length_take,List.length_drop]; omega⟩
  rw[na hE hfn];have hp:=(h.pV _ _ hd).1;rw[<-List.take_append_drop (fa n.av s) n.av,List.pairwise_append] at hp;obtain⟨p1,p2,p3⟩:=hp;rw[List.pairwise_append];refine⟨p1,List.pairwise_cons.2 ⟨fun a ha=>?_,p2⟩,fun a ha c hc=>?_⟩
  ·have:=(h.vZ _ _ a hd (List.mem_of_mem_drop ha)).2.1;simp only; omega
  ·rcases List.mem_cons.1 hc with rfl|hc
   ·have:=(h.vZ _ _ a hd (List.mem_of_mem_take ha)).2.1;simp only; omega
   ·exact p3 a ha c hc
 ·intro i h0;have h1:=hc i;rw[if_neg (show i≠0 by omega)]
  have e1:(if i=d then (n.bE-n.bE:Int) else 0)=0:=by split<;>omega
  simp only[e1]
  by_cases h0:i=x
  ·subst h0;simp only[↓reduceIte] at h1 ⊢;omega
  ·rw[if_neg (fun hh=>h0 hh.symm)] at h1
   rw[if_neg h0];omega
 ·intro h12; omega
 ·rw[hw];simp only;rw[pH h.fN.hV (o:=n) (by simp only[hi]; exact hd)]
  exact h.nodes
 ·rw[hw]
 ·rw[hw]; simp only; omega
 ·rw[hw]; simp only; omega
def bK.Jm{t:Tree}{dep:Int->Nat}{x x' d:Int}{n n':Node}(h:bK t dep x)(hd:find t.nodes d=some n)(hk:n.kind=1)(hi':n'.ino=d)(hk':n'.kind=1)(hu:n'.up=n.up)(he:n'.av=n.av)(hda:n'.data.length<=4096)
  (hx:∀i:Int,1<=i->(if i=x' then 1 else 0:Int)=(if i=x then 1 else 0)+(if i=d then n'.bE-n.bE else 0)):bK ⟨bJ t.nodes n',t.next,t.af⟩ dep x':=by
 have hi:n.ino=d:=h.ino hd;have hE:ja n'.av:=by rw[he]; exact h.fN.av n (bh hd).1
 have hff:∀i,find (bJ t.nodes n') i=if i=d then some n' else find t.nodes i:=by
  intro i;rw[cN h.fN.hV n' i,hi']
 obtain⟨f1,f2,f3⟩:=h.file _ _ hd hk;refine h.cH (h.fN.with hE t.next t.af) hd hff (by omega) hu ?_ ?_ ?_ ?_ ?_ ?_ ?_ ?_ rfl (Int.le_refl _) h.af.2
 ·intro _; exact⟨by rw[he]; exact f1,hda⟩
 ·intro h2; omega
 ·intro e hem; rw[he,f1] at hem; cases hem
 ·rw[he,f1]; exact⟨List.Pairwise.nil,by simp⟩
 ·intro i h0;have h1:=mT h.fN.hV n' i;have h2:=hx i h0;simp only[aD,hi',hd,Option.getD_some,he] at h1;simp only;omega
 ·intro h2; omega
 ·intro _; rw[he,f1]
 ·simp only;rw[pH h.fN.hV (o:=n) (by simp only[hi']; exact hd)]
  exact h.nodes
def bK.named{t:Tree}{dep:Int->Nat}{x:Int}(h:bK t dep x){i:Int}{n:Node}(hi:find t.nodes i=some n)(hk:n.kind=2)(h1:i≠1)(hx:i≠x):∃p e,find t.nodes n.up=some p/\p.kind=2/\e∈p.av/\e.ino=i:=by
 have a:=h.bE _ _ hi;have b:=h.one _ _ hi hk h1;rw[if_neg hx] at a;obtain⟨m,e,e1,e2,e3⟩:=pC.1 (show 0<mB t.nodes i by omega)
 have hm:find t.nodes m.ino=some m:=(fG h.fN.hV).2 ⟨e1,rfl⟩;obtain⟨_,_,_,_,k,k1,k2⟩:=h.vZ _ _ e hm e2;rw[e3,hi] at k1; cases k1;obtain⟨_,p,p1,p2⟩:=h.oq _ _ hi hk h1;rw[k2 hk] at p1 ⊢;rw[hm] at p1; cases p1;exact⟨m,e,hm,p2,e2,e3⟩
def bK.drop{t:Tree}{dep:Int->Nat}{x k:Int}{n:Node}(h:bK t dep x)(hx:x=k\/x=0)(hk:find t.nodes k=some n)(he:n.av=[])(h1:k≠1)(hc:mB t.nodes k=0):bK ⟨db t.nodes k,t.next,t.af⟩ dep 0:=by
 have hff:∀i m,find (db t.nodes k) i=some m↔i≠k/\find t.nodes i=some m:=by
  intro i m;rw[gI h.fN.hV];split<;>simp_all
 have hcn:∀i,mB (db t.nodes k) i=mB t.nodes i:=by
  intro i;have:=zo h.fN.hV k i;simp only[aD,hk,Option.getD_some,he,rP] at this;omega
 have hno:∀i m e,find t.nodes i=some m->e∈m.av->e.ino≠k:=by
  intro i m e hm hem hh;have:=pC.2 ⟨m,e,(bh hm).1,hem,hh⟩;omega
 refine⟨h.fN.mo k t.next t.af,?_,?_,?_,?_,?_,?_,?_,?_,?_,h.AX,?_,?_,?_,h.next,h.af⟩
 ·obtain⟨r,r1,r2⟩:=h.root;exact⟨r,(hff _ _).2 ⟨fun hh=>h1 hh.symm,r1⟩,r2⟩
 ·intro i m hm; exact h.num _ _ ((hff _ _).1 hm).2
 ·intro i m hm; exact h.kind _ _ ((hff _ _).1 hm).2
 ·intro i m hm; exact h.file _ _ ((hff _ _).1 hm).2
 ·intro i m hm; exact h.dir _ _ ((hff _ _).1 hm).2
 ·intro i m e hm hem;have hm':=((hff _ _).1 hm).2;obtain⟨a1,a2,a3,a4,q,a5,a6⟩:=h.vZ _ _ e hm' hem;exact⟨a1,a2,a3,a4,q,(hff _ _).2 ⟨hno _ _ e hm' hem,a5⟩,a6⟩
 ·intro i m hm; exact h.pV _ _ ((hff _ _).1 hm).2
 ·intro i m hm;obtain⟨m1,m2⟩:=(hff _ _).1 hm;have:=h.bE _ _ m2;have h0:=(h.num _ _ m2).1;rw[if_neg (show i≠0 by omega)]
  rw[if_neg (by rcases hx with rfl|rfl<;>omega)] at this
  simp only[hcn];exact this
 ·intro i m hm; exact h.one _ _ ((hff _ _).1 hm).2
 ·intro i m hm hk2 hi1;obtain⟨m1,m2⟩:=(hff _ _).1 hm;obtain⟨a,p,b,c⟩:=h.oq _ _ m2 hk2 hi1;refine⟨a,p,(hff _ _).2 ⟨fun hh=>?_,b⟩,c⟩
  have h0:=(h.num _ _ m2).1;obtain⟨q,e,q1,_,q3,_⟩:=h.named m2 hk2 hi1 (by rcases hx with rfl|rfl<;>omega)
  rw[hh,hk] at q1; cases q1;rw[he] at q3; cases q3
 ·intro i m hm; exact h.deep _ _ ((hff _ _).1 hm).2
 ·exact Nat.le_trans (List.length_filter_le _ _) h.nodes
def bK.ahu{t:Tree}{dep dep':Int->Nat}{x to:Int}{n p:Node}(h:bK t dep x)(hx:find t.nodes x=some n)(hk:n.kind=2)(hx1:x≠1)(hp:find t.nodes to=some p)(hpk:p.kind=2)
  (h1:dep' 1=0) (hds:∀i m,find t.nodes i=some m->m.kind=2->i≠1->i≠x->dep' i=dep' m.up+1) (hdx:dep' x=dep' to+1)
  (hdeep:∀i m,find t.nodes i=some m->m.kind=2->dep' i<=12/\(dep' i=12->m.av=[])):bK ⟨bJ t.nodes { n with up:=to },t.next,t.af⟩ dep' x:=by
 have hi:n.ino=x:=h.ino hx
 have hff:∀i,find (bJ t.nodes { n with up:=to }) i=if i=x then some { n with up:=to } else find t.nodes i:=by
  intro i;rw[cN h.fN.hV { n with up:=to } i]
  simp only[hi]
 have jc:∀j m,find t.nodes j=some m->∃m',find (bJ t.nodes { n with up:=to }) j=some m'/\m'.kind=m.kind/\(j≠x->m'.up=m.up):=by
  intro j m hm;rw[hff];split
  ·rename_i he;subst he;rw[hx] at hm; cases hm;exact⟨_,rfl,rfl,fun hh=>absurd rfl hh⟩
  ·exact⟨m,hm,rfl,fun _=>rfl⟩
 have back:∀j m',find (bJ t.nodes { n with up:=to }) j=some m'->(j=x/\m'={ n with up:=to })\/(j≠x/\find t.nodes j=some m'):=by
  intro j m' hm;rw[hff] at hm;split at hm
  ·rename_i he; injection hm with hm; exact .inl ⟨he,hm.symm⟩
  ·rename_i he; exact .inr ⟨he,hm⟩
 have hcn:∀i,mB (bJ t.nodes { n with up:=to }) i=mB t.nodes i:=by
  intro i;have:=mT h.fN.hV { n with up:=to } i
  have h3:aD t.nodes n.ino=n:=by simp only[aD,hi,hx,Option.getD_some]
  simp only[h3] at this;omega
 have hc0:mB t.nodes x=0:=by
  have a:=h.bE _ n hx;have b:=h.one _ n hx hk hx1;simp only[↓reduceIte] at a;omega
 have hno:∀i m e,find t.nodes i=some m->e∈m.av->e.ino≠x:=by
  intro i m e hm hem hh;have:=pC.2 ⟨m,e,(bh hm).1,hem,hh⟩;omega
 have hent:∀i m e,find t.nodes i=some m->e∈m.av->1<=e.af/\e.af<t.af/\e.ino≠1/\Nm e.name/\∃m,find (bJ t.nodes { n with up:=to }) e.ino=some m/\(m.kind=2->m.up=i):=by
  intro i m e hm hem;obtain⟨a1,a2,a3,a4,q,a5,a6⟩:=h.vZ _ _ e hm hem;obtain⟨q',j1,j2,j3⟩:=jc _ _ a5;exact⟨a1,a2,a3,a4,q',j1,fun hk=>by rw[j3 (hno _ _ e hm hem)]; exact a6 (by omega)⟩
 refine⟨h.fN.with (n:={ n with up:=to }) (h.fN.av n (bh hx).1) t.next t.af,?_,?_,?_,?_,?_,?_,?_,?_,?_,h1,?_,?_,?_,h.next,h.af⟩
 ·obtain⟨r,r1,r2,r3⟩:=h.root;obtain⟨r',k1,k2,k3⟩:=jc _ _ r1;exact⟨r',k1,by omega,by rw[k3 (fun hh=>hx1 hh.symm)]; exact r3⟩
 ·intro i m hm;rcases back i m hm with ⟨rfl,rfl⟩|⟨_,hm⟩
  ·exact h.num _ n hx
  ·exact h.num _ _ hm
 ·intro i m hm;rcases back i m hm with ⟨rfl,rfl⟩|⟨_,hm⟩
  ·exact h.kind _ n hx
  ·exact h.kind _ _ hm
 ·intro i m hm hk1;rcases back i m hm with ⟨rfl,rfl⟩|⟨_,hm⟩
  ·simp only at hk1; omega
  ·exact h.file _ _ hm hk1
 ·intro i m hm hk1;rcases back i m hm with ⟨rfl,rfl⟩|⟨_,hm⟩
  ·exact h.dir _ n hx hk
  ·exact h.dir _ _ hm hk1
 ·intro i m e hm hem;rcases back i m hm with ⟨rfl,rfl⟩|⟨_,hm⟩
  ·exact hent _ n e hx hem
  ·exact hent _ _ e hm hem
 ·intro i m hm;rcases back i m hm with ⟨rfl,rfl⟩|⟨_,hm⟩
  ·exact h.pV _ n hx
  ·exact h.pV _ _ hm
 ·intro i m hm;simp only[hcn];rcases back i m hm with ⟨rfl,rfl⟩|⟨_,hm⟩
  ·exact h.bE _ n hx
  ·exact h.bE _ _ hm
 ·intro i m hm hk1 hi1;rcases back i m hm with ⟨rfl,rfl⟩|⟨_,hm⟩
  ·exact h.one _ n hx hk hi1
  ·exact h.one _ _ hm hk1 hi1
 ·intro i m hm hk1 hi1;rcases back i m hm with ⟨rfl,rfl⟩|⟨hne,hm⟩
  ·obtain⟨p',k1,k2,_⟩:=jc _ _ hp;exact⟨hdx,p',k1,by omega⟩
  ·obtain⟨_,q,b,c⟩:=h.oq _ _ hm hk1 hi1;obtain⟨q',k1,k2,_⟩:=jc _ _ b;exact⟨hds _ _ hm hk1 hi1 hne,q',k1,by omega⟩
 ·intro i m hm hk1;rcases back i m hm with ⟨rfl,rfl⟩|⟨_,hm⟩
  ·exact hdeep _ n hx hk
  ·exact hdeep _ _ hm hk1
 ·simp only;rw[pH h.fN.hV (o:=n) (by simp only[hi]; exact hx)]
  exact h.nodes
def bK.made{t:Tree}{dep:Int->Nat}{d kind:Int}{p:Node}(h:bK t dep 0)(hp:find t.nodes d=some p)(hpk:p.kind=2)(hk:kind=1\/kind=2)(hdp:dep d<12)(hl:t.nodes.length<200)(hn:t.next<1099511627776) :
  bK ⟨bJ t.nodes ⟨t.next,kind,1,[],[],if (kind==2)=true then d else 0⟩,t.next+1,t.af⟩ (fun i=>if i=t.next then dep d+1 else dep i) t.next:=by
 have dw:find t.nodes t.next=none:=by
  cases hz:find t.nodes t.next with
  |none=>rfl
  |some m=>have:=h.num _ _ hz; omega
 have hnx:2<=t.next:=by
  obtain⟨r,r1,_⟩:=h.root;have:=(h.num _ _ r1).2; omega
 generalize hn':Node.mk t.next kind 1 [] [] (if (kind==2)=true then d else 0)=n'
 have i1:n'.ino=t.next:=by rw[<-hn']
 have i2:n'.kind=kind:=by rw[<-hn']
 have i3:n'.bE=1:=by rw[<-hn']
 have i4:n'.data=[]:=by rw[<-hn']
 have i5:n'.av=[]:=by rw[<-hn']
 have i6:n'.up=if (kind==2)=true then d else 0:=by rw[<-hn']
 have hff:∀i,find (bJ t.nodes n') i=if i=t.next then some n' else find t.nodes i:=by
  intro i;rw[cN h.fN.hV n' i,i1]
 have jc:∀j m,find t.nodes j=some m->find (bJ t.nodes n') j=some m/\j≠t.next:=by
  intro j m hm;have:=(h.num _ _ hm).2;rw[hff,if_neg (by omega)]
  exact⟨hm,by omega⟩
 have back:∀j m',find (bJ t.nodes n') j=some m'->(j=t.next/\m'=n')\/(j≠t.next/\find t.nodes j=some m'):=by
  intro j m' hm;rw[hff] at hm;split at hm
  ·rename_i he; injection hm with hm; exact .inl ⟨he,hm.symm⟩
  ·rename_i he; exact .inr ⟨he,hm⟩
 have hcn:∀i,mB (bJ t.nodes n') i=mB t.nodes i:=by
  intro i;have:=mT h.fN.hV n' i;simp only[aD,i1,dw,Option.getD_none,Node.zero,i5,rP] at this;omega
 have hc0:mB t.nodes t.next=0:=by
  rcases Nat.eq_zero_or_pos (mB t.nodes t.next) with h0|h0
  ·exact h0
  ·obtain⟨m,e,e1,e2,e3⟩:=pC.1 h0;obtain⟨_,_,_,_,k,k1,_⟩:=h.vZ _ _ e ((fG h.fN.hV).2 ⟨e1,rfl⟩) e2;rw[e3,dw] at k1; cases k1
 refine⟨h.fN.with (n:=n') (by rw[i5]; exact List.Pairwise.nil) _ _,?_,?_,?_,?_,?_,?_,?_,?_,?_,?_,?_,?_,?_,?_,h.af⟩
 ·obtain⟨r,r1,r2⟩:=h.root;exact⟨r,(jc _ _ r1).1,r2⟩
 ·intro i m hm;simp only;rcases back i m hm with ⟨rfl,rfl⟩|⟨_,hm⟩
  ·omega
  ·have:=h.num _ _ hm; omega
 ·intro i m hm;rcases back i m hm with ⟨rfl,rfl⟩|⟨_,hm⟩
  ·rw[i2]; exact hk
  ·exact h.kind _ _ hm
 ·intro i m hm hk1;rcases back i m hm with ⟨rfl,rfl⟩|⟨_,hm⟩
  ·rw[i2] at hk1;exact⟨i5,by rw[i6,hk1]; rfl,by rw[i4]; simp⟩
  ·exact h.file _ _ hm hk1
 ·intro i m hm hk1;rcases back i m hm with ⟨rfl,rfl⟩|⟨_,hm⟩
  ·exact i4
  ·exact h.dir _ _ hm hk1
 ·intro i m e hm hem;rcases back i m hm with ⟨rfl,rfl⟩|⟨_,hm⟩
  ·rw[i5] at hem; cases hem
  ·obtain⟨a1,a2,a3,a4,q,a5,a6⟩:=h.vZ _ _ e hm hem;exact⟨a1,a2,a3,a4,q,(jc _ _ a5).1,a6⟩
 ·intro i m hm;rcases back i m hm with ⟨rfl,rfl⟩|⟨_,hm⟩
  ·rw[i5]; exact⟨List.Pairwise.nil,by simp⟩
  ·exact h.pV _ _ hm
 ·intro i m hm;simp only[hcn];rcases back i m hm with ⟨rfl,rfl⟩|⟨hne,hm⟩
  ·rw[hc0,i3]; simp
  ·rw[if_neg hne];have:=h.bE _ _ hm;rw[if_neg (by have:=(h.num _ _ hm).1; omega)] at this
   exact this
 ·intro i m hm hk1 hi1;rcases back i m hm with ⟨rfl,rfl⟩|⟨_,hm⟩
  ·exact i3
  ·exact h.one _ _ hm hk1 hi1
 ·show(if (1:Int)=t.next then dep d+1 else dep 1)=0
  rw[if_neg (by omega)]; exact h.AX
 ·intro i m hm hk1 hi1
  show(if i=t.next then dep d+1 else dep i)=(if m.up=t.next then dep d+1 else dep m.up)+1/\_
  rcases back i m hm with ⟨rfl,rfl⟩|⟨hne,hm⟩
  ·rw[i2] at hk1;have hu:m.up=d:=by rw[i6,hk1]; rfl
   rw[hu,if_pos rfl,if_neg (jc _ _ hp).2];exact⟨rfl,p,(jc _ _ hp).1,hpk⟩
  ·obtain⟨a,q,b,c⟩:=h.oq _ _ hm hk1 hi1;rw[if_neg hne,if_neg (jc _ _ b).2];exact⟨a,q,(jc _ _ b).1,c⟩
 ·intro i m hm hk1
  show(if i=t.next then dep d+1 else dep i)<=12/\((if i=t.next then dep d+1 else dep i)=12->_)
  rcases back i m hm with ⟨rfl,rfl⟩|⟨hne,hm⟩
  ·rw[if_pos rfl]; exact⟨by omega,fun _=>i5⟩
  ·rw[if_neg hne]; exact h.deep _ _ hm hk1
 ·have:=yY t.nodes n';simp only; omega
 ·simp only; omega
def cover:∀(k:Nat)(l:List Nat),(∀j,j<k->j∈l)->k<=l.length
 |0,_,_=>Nat.zero_le _
 |k+1,l,h=>by
  have hk:=h k (by omega)
  have:=cover k (l.erase k) (fun j hj=>(List.mem_erase_of_ne (by omega)).2 (h j (by omega)))
  rw[List.length_erase_of_mem hk] at this;have:=List.length_pos_of_mem hk;omega
def bK.ahG{t:Tree}{dep:Int->Nat}{x:Int}(h:bK t dep x):∀(m:Nat)(i:Int)(n:Node),find t.nodes i=some n->n.kind=2->dep i=m->∀k,k<=m->∃j p,find t.nodes j=some p/\dep j=k:=by
 intro m;induction m with
 |zero=>intro i n hi _ hm k hk; exact⟨i,n,hi,by omega⟩
 |succ m ih =>
  intro i n hi hk2 hm k hk;rcases Nat.eq_or_lt_of_le hk with rfl|hlt
  ·exact⟨i,n,hi,hm⟩
  ·have h1:i≠1:=fun hh=>by subst hh; have:=h.AX; omega
   obtain⟨a,p,b,c⟩:=h.oq _ _ hi hk2 h1;exact ih _ p b c (by omega) k (by omega)
def bK.zt{t:Tree}{dep:Int->Nat}{x:Int}(h:bK t dep x){i:Int}{n:Node}(hi:find t.nodes i=some n)(hk:n.kind=2):dep i<t.nodes.length:=by
 have:=cover (dep i+1) (t.nodes.map fun n=>dep n.ino) (fun j hj=>by
  obtain⟨a,p,h1,h2⟩:=h.ahG _ _ _ hi hk rfl j (by omega)
  rw[List.mem_map];exact⟨p,(bh h1).1,by rw[(bh h1).2,h2]⟩)
 rw[List.length_map] at this;omega
def bK.DA{t:Tree}{dep:Int->Nat}{x:Int}(h:bK t dep x):∀(m:Nat)(i:Int)(d:Nat)(n:Node),find t.nodes i=some n->n.kind=2->dep i<=m->nI t.nodes m i d=d+dep i:=by
 intro m;induction m with
 |zero=>intro i d n _ _ hd; simp only[nI]; omega
 |succ m ih =>
  intro i d n hi hk hd;simp only[nI];split
  ·rename_i h1; subst h1; have:=h.AX; omega
  ·rename_i h1;obtain⟨a,p,b,c⟩:=h.oq _ _ hi hk h1;have hu:H2 t.nodes i=n.up:=by simp[H2,hi]
   rw[hu,ih _ _ p b c (by omega)]
   omega
def bK.ib{t:Tree}{dep:Int->Nat}{x:Int}(h:bK t dep x){i:Int}{n:Node}(hi:find t.nodes i=some n)(hk:n.kind=2):gU t.nodes i=dep i:=by
 have:=h.DA 201 i 0 n hi hk (by have:=(h.deep _ _ hi hk).1; omega)
 simp only[gU,this]; omega
def bK.pQ{t:Tree}{dep:Int->Nat}{x:Int}(h:bK t dep x):∀(m:Nat)(i:Int)(out:List Int)(n:Node),find t.nodes i=some n->n.kind=2->dep i<=m->(lP t.nodes m i out).length=out.length+dep i:=by
 intro m;induction m with
 |zero=>intro i out n _ _ hd; simp only[lP]; omega
 |succ m ih =>
  intro i out n hi hk hd;simp only[lP]
  by_cases h1:i=1
  ·subst h1; have:=h.AX; simp; omega
  ·obtain⟨a,p,b,c⟩:=h.oq _ _ hi hk h1;simp only[bne_iff_ne,ne_eq,h1,not_false_eq_true,↓reduceIte,aD,hi,Option.isSome_some,Bool.not_true,Option.getD_some,hk,bne_self_eq_false,Bool.or_self,Bool.false_eq_true];rw[ih _ _ p b c (by omega)]
   simp only[List.length_append,List.length_cons,List.length_nil];omega
def bK.lQ{t:Tree}{dep:Int->Nat}{x:Int}(h:bK t dep x){i:Int}{n:Node}(hi:find t.nodes i=some n)(hk:n.kind=2):(kP t.nodes i).length=dep i+1:=by
 have:=h.pQ t.nodes.length i [i] n hi hk (by have:=h.zt hi hk; omega)
 simp only[kP,this,List.length_cons,List.length_nil]; omega
def bK.Qo{t:Tree}{dep:Int->Nat}{x:Int}(_:bK t dep x){i:Int}{n:Node}(hi:find t.nodes i=some n):H2 t.nodes i=n.up:=by simp[H2,hi]
def bK.vP{t:Tree}{dep:Int->Nat}{x:Int}(h:bK t dep x)(of:Int):∀(m:Nat)(i:Int)(n:Node),find t.nodes i=some n->n.kind=2->dep i<m->fD t.nodes of m i=fD t.nodes of (dep i+1) i:=by
 intro m;induction m with
 |zero=>intro i n _ _ hd; omega
 |succ m ih =>
  intro i n hi hk hd
  by_cases h1:i=1
  ·subst h1; simp only[fD]; split<;>rfl
  ·obtain⟨a,p,b,c⟩:=h.oq _ _ hi hk h1;simp only[fD,h1,↓reduceIte,h.Qo hi];rw[ih _ p b c (by omega),a]
def bK.qR{t:Tree}(i:Int):ei t.nodes i i=true:=by simp[ei,fD]
def bK.vQ{t:Tree}{of:Int}(h1:of≠1):ei t.nodes 1 of=false:=by
 simp only[ei,fD];rw[if_neg (fun hh=>h1 hh.symm)]
 rfl
def bK.AE{t:Tree}{dep:Int->Nat}{x:Int}(h:bK t dep x){of i:Int}{n:Node}(hi:find t.nodes i=some n)(hk:n.kind=2)(h1:i≠1)(ho:i≠of):ei t.nodes i of=ei t.nodes n.up of:=by
 obtain⟨a,p,b,c⟩:=h.oq _ _ hi hk h1;have d1:=h.zt b c;have d2:=h.zt hi hk;simp only[ei];rw[h.vP of _ _ p b c (by omega)]
 rw[h.vP of _ _ n hi hk (by omega)]
 conv=>lhs; rw[fD]
 simp only[ho,h1,↓reduceIte,h.Qo hi];rw[a]
def bK.th{t:Tree}{dep:Int->Nat}{x:Int}(h:bK t dep x){of:Int}:∀(m:Nat)(i:Int)(n:Node),find t.nodes i=some n->n.kind=2->dep i=m->ei t.nodes i of=true->dep of<=dep i:=by
 intro m;induction m with
 |zero =>
  intro i n hi hk hm hb
  by_cases h1:i=1
  ·by_cases h2:of=1
   ·subst h1; subst h2; exact Nat.le_refl _
   ·subst h1; rw[bK.vQ h2] at hb; cases hb
  ·obtain⟨a,_⟩:=h.oq _ _ hi hk h1;omega
 |succ m ih =>
  intro i n hi hk hm hb;have h1:i≠1:=fun hh=>by subst hh; have:=h.AX; omega
  obtain⟨a,p,b,c⟩:=h.oq _ _ hi hk h1
  by_cases ho:i=of
  ·subst ho; exact Nat.le_refl _
  ·rw[h.AE hi hk h1 ho] at hb;have:=ih _ p b c (by omega) hb
   omega
def B9{α:Type}[DecidableEq α]:∀(l k:List α),l.Nodup->(∀x,x∈l->x∈k)->l.length<=k.length
 | [],_,_,_=>Nat.zero_le _
 |a::l,k,h,hs=>by
  have ha:=hs a List.mem_cons_self;obtain⟨h1,h2⟩:=List.nodup_cons.1 h;have:=B9 l (k.erase a) h2 (fun x hx=>(List.mem_erase_of_ne (by rintro rfl; exact h1 hx)).2 (hs x (List.mem_cons_of_mem _ hx)))
  rw[List.length_erase_of_mem ha] at this;have:=List.length_pos_of_mem ha;simp only[List.length_cons];omega
def bK.few{t:Tree}{dep:Int->Nat}{x:Int}(h:bK t dep x){i:Int}{n:Node}(hi:find t.nodes i=some n):n.av.length<=64:=(h.pV _ _ hi).2
def I3(i:Int):∀(ns:List Node),(∀n,n∈ns->n.av.length<=64)->mB ns i<=64*ns.length
 | [],_=>Nat.zero_le _
 |n::ns,h=>by
  have h1:=I3 i ns (fun m hm=>h m (List.mem_cons_of_mem _ hm))
  have h2:jg n.av i<=n.av.length:=List.countP_le_length;have h3:=h n List.mem_cons_self;rw[mS,List.length_cons];omega
def bK.I4{t:Tree}{dep:Int->Nat}{x:Int}(h:bK t dep x)(i:Int):mB t.nodes i<=12800:=by
 have:=I3 i t.nodes (fun n hn=>h.few ((fG h.fN.hV).2 ⟨hn,rfl⟩))
 have:=h.nodes;omega
def bK.oM{t:Tree}{dep:Int->Nat}{x:Int}(h:bK t dep x){i:Int}{n:Node}(hi:find t.nodes i=some n){e:ct}(he:e∈n.av):e.ino≠i:=by
 intro hh;obtain⟨_,_,h1,_,m,hm,hu⟩:=h.vZ _ _ e hi he;rw[hh,hi] at hm; cases hm
 have hk:n.kind=2:=by
  rcases h.kind _ _ hi with hk|hk
  ·rw[(h.file _ _ hi hk).1] at he; cases he
  ·exact hk
 have:=(h.oq _ _ hi hk (by omega)).1
 rw[hu hk] at this;omega
def A4{t:Tree}{ino:Int}{s:Bytes}(h:(gz t ino s != 0)=false):∃d,find t.nodes ino=some d/\d.kind=2/\cr s=true/\cB d.av s=none/\d.av.length<64/\gU t.nodes ino<12/\t.af<1099511627776:=by
 have h0:gz t ino s=0:=by simpa using h
 unfold gz at h0;split at h0
 ·rename_i h1; exact absurd h0 h1
 ·rename_i h1;obtain⟨d,d1,d2,d3⟩:=qW (show(cK t.nodes ino).2=0 by omega)
  rw[d3] at h0;split at h0
  ·cases h0
  ·rename_i h2;split at h0
   ·cases h0
   ·rename_i h3;split at h0
    ·cases h0
    ·rename_i h4;simp only[wm,(bh d1).2,Bool.or_eq_true,decide_eq_true_eq,not_or] at h4;refine⟨d,d1,d2,by simpa using h2,by simpa using h3,by omega,by omega,by omega⟩
def bK.cw{t:Tree}{dep:Int->Nat}{x:Int}(h:bK t dep x)(hn:t.next<1099511627776):fO (t.next+1)=t.next+1:=cL (by
 obtain⟨r,r1,_⟩:=h.root;have:=h.num _ _ r1; omega) (by omega)
def IK{t:Tree}{dep:Int->Nat}(h:bK t dep 0)(ino:Int)(s:Bytes)(kind:Int)(hs:cr s=true->Nm s):∃dep',bK (kf t ino s kind).1 dep' 0:=by
 unfold kf;split
 ·exact⟨dep,h⟩
 ·rename_i hk;split
  ·exact⟨dep,h⟩
  ·rename_i he;split
   ·exact⟨dep,h⟩
   ·rename_i hb;obtain⟨d,d1,d2,d3,d4,d5,d6,d7⟩:=A4 (by simpa using he)
    simp only[Bool.or_eq_true,decide_eq_true_eq,not_or] at hb;have hn:t.next<1099511627776:=by omega
    rw[h.ib d1 d2] at d6
    have hk':kind=1\/kind=2:=by
     simp only[Bool.and_eq_true,bne_iff_ne,ne_eq,not_and,Decidable.not_not] at hk
     by_cases h1:kind=1
     ·exact .inl h1
     ·exact .inr (hk h1)
    have hm:=h.made d1 d2 hk' d6 (by omega) hn
    rw[h.cw hn];have hlt:=(h.num _ _ d1).2;have hne:ino≠t.next:=by omega
    refine⟨_,hm.fR (d:=ino) (n:=d) (m:=⟨t.next,kind,1,[],[],if (kind==2)=true then ino else 0⟩) ?_ d2 d4 (by simpa using d5) (hs d3) ?_ ?_ ?_ ?_ d7⟩
    ·simp only; rw[cN h.fN.hV]; simp only[hne,↓reduceIte]; exact d1
    ·simp only; rw[cN h.fN.hV]; simp only[↓reduceIte]
    ·have:=(h.num _ _ d1).1; omega
    ·intro h2;simp only at h2;simp[h2]
    ·simp only[hne,↓reduceIte]; exact d6
def SH{t:Tree}{dep:Int->Nat}(h:bK t dep 0)(ino to:Int)(s:Bytes)(hs:cr s=true->Nm s):bK (wL t ino to s).1 dep 0:=by
 unfold wL;split
 ·exact h
 ·rename_i hf;split
  ·exact h
  ·rename_i hk;split
   ·exact h
   ·rename_i he;obtain⟨d,d1,d2,d3,d4,d5,d6,d7⟩:=A4 (by simpa using he)
    rw[h.ib d1 d2] at d6;cases hi:find t.nodes ino with
    |none=>simp[hi] at hf
    |some n =>
     simp only[aD,hi,Option.getD_some] at hk ⊢
     have hk1:n.kind=1:=by
      rcases h.kind _ _ hi with h1|h1
      ·exact h1
      ·simp[h1] at hk
     have hlk:=h.bE _ _ hi;rw[if_neg (by have:=(h.num _ _ hi).1; omega)] at hlk
     have hcl:=h.I4 ino;have hw:fO (n.bE+1)=n.bE+1:=cL (by omega) (by omega)
     rw[hw];obtain⟨f1,f2,f3⟩:=h.file _ _ hi hk1
     have hg:=h.Jm (n':={ n with bE:=n.bE+1 }) (x':=ino) hi hk1 (bh hi).2 hk1 rfl rfl f3 (fun i h0=>by
      simp only;rw[if_neg (show i≠0 by omega)]
      split<;>omega)
     have hne:to≠ino:=fun hh=>by subst hh; rw[hi] at d1; cases d1; omega
     refine hg.fR (d:=to) (n:=d) (m:={ n with bE:=n.bE+1 }) ?_ d2 d4 (by simpa using d5) (hs d3) ?_ ?_ ?_ d6 d7
     ·simp only; rw[cN h.fN.hV]; simp only[h.ino hi,hne,↓reduceIte]; exact d1
     ·simp only; rw[cN h.fN.hV]; simp only[h.ino hi,↓reduceIte]
     ·intro hh; subst hh;obtain⟨r,r1,r2,_⟩:=h.root;rw[hi] at r1; cases r1; omega
     ·intro h2; simp only at h2; omega
def bK.unnamed{t:Tree}{dep:Int->Nat}{k:Int}{n:Node}(h:bK t dep k)(hk:find t.nodes k=some n)(he:n.av=[])(h1:k≠1):bK ⟨bV t.nodes k,t.next,t.af⟩ dep 0:=by
 unfold bV;simp only[aD,hk,Option.getD_some];have hl:=h.bE _ _ hk;simp only[↓reduceIte] at hl;split
 ·rename_i h2;have:=h.one _ _ hk (by simpa using h2) h1
  exact h.drop (.inl rfl) hk he h1 (by omega)
 ·rename_i h2
  have hk1:n.kind=1:=by
   rcases h.kind _ _ hk with h1|h1
   ·exact h1
   ·simp[h1] at h2
  have hcl:=h.I4 k;have hw:fO (n.bE-1)=n.bE-1:=cL (by omega) (by omega)
  rw[hw];obtain⟨f1,f2,f3⟩:=h.file _ _ hk hk1
  exact h.Jm (n':={ n with bE:=n.bE-1 }) (x':=0) hk hk1 (bh hk).2 hk1 rfl rfl f3 (fun i h0=>by
   simp only;rw[if_neg (show i≠0 by omega)]
   split<;>omega)
def bK.un{t:Tree}{dep:Int->Nat}(h:bK t dep 0){d:Int}{n m:Node}{s:Bytes}{e:ct}(hd:find t.nodes d=some n)(he:cB n.av s=some e)(hm:find t.nodes e.ino=some m)(hm0:m.av=[]):bK ⟨bV (bm t.nodes d s) e.ino,t.next,t.af⟩ dep 0:=by
 have hem:=(dH he).1;have hl:=h.left hd he;refine hl.unnamed (n:=m) ?_ hm0 (h.vZ _ _ e hd hem).2.2.1;simp only;rw[er h.fN.hV hd,if_neg (h.oM hd hem)];exact hm
def T6{t:Tree}{dep:Int->Nat}(h:bK t dep 0)(ino:Int)(s:Bytes):bK (vo t ino s).1 dep 0:=by
 unfold vo;split
 ·exact h
 ·rename_i hl;obtain⟨d,e,d1,d2,d3,d4,d5⟩:=look_ok (by simpa using hl)
  rw[d5];split
  ·exact h
  ·rename_i h0;obtain⟨_,_,_,_,m,hm,_⟩:=h.vZ _ _ e d1 (dH d4).1;simp only[aD,hm,Option.getD_some,decide_eq_true_eq] at h0;exact h.un d1 d4 hm (List.length_eq_zero_iff.1 (by omega))
def Py{t:Tree}{dep:Int->Nat}(h:bK t dep 0)(ino:Int)(data:Bytes):bK (j9 t ino data).1 dep 0:=by
 unfold j9;split
 ·exact h
 ·rename_i hf;split
  ·exact h
  ·rename_i hk;split
   ·exact h
   ·rename_i hd;cases hi:find t.nodes ino with
    |none=>simp[hi] at hf
    |some n =>
     simp only[aD,hi,Option.getD_some] at hk ⊢
     have hk1:n.kind=1:=by
      rcases h.kind _ _ hi with h1|h1
      ·exact h1
      ·simp[h1] at hk
     simp only[decide_eq_true_eq] at hd
     exact h.Jm (n':={ n with data:=data }) (x':=0) hi hk1 (bh hi).2 hk1 rfl rfl (by simp only; omega) (fun i h0=>by
      simp only;rw[if_neg (show i≠0 by omega)]
      split<;>omega)
def G4{t:Tree}{dep:Int->Nat}(h:bK t dep 0)(ino:Int):bK (gD t ino).1 dep 0:=by
 unfold gD;split
 ·exact h
 ·rename_i hf;split
  ·exact h
  ·rename_i hk;split
   ·exact h
   ·rename_i hd;cases hi:find t.nodes ino with
    |none=>simp[hi] at hf
    |some n =>
     simp only[aD,hi,Option.getD_some] at hk hd
     have hk1:n.kind=1:=by
      rcases h.kind _ _ hi with h1|h1
      ·exact h1
      ·simp[h1] at hk
     simp only[decide_eq_true_eq] at hd;have hl:=h.bE _ _ hi;rw[if_neg (by have:=(h.num _ _ hi).1; omega)] at hl
     refine h.drop (.inr rfl) hi (h.file _ _ hi hk1).1 ?_ (by omega)
     intro hh; subst hh;obtain⟨r,r1,r2,_⟩:=h.root;rw[hi] at r1; cases r1; omega
def EH:∀ {a b:List Node},gr a->gr b->(∀m,m∈a↔m∈b)->a=b
 | [],[],_,_,_=>rfl
 | [],y::b,_,_,h=>by have:=(h y).2 List.mem_cons_self; cases this
 |x::a,[],_,_,h=>by have:=(h x).1 List.mem_cons_self; cases this
 |x::a,y::b,ha,hb,h=>by
  obtain⟨a1,a2⟩:=List.pairwise_cons.1 ha;obtain⟨b1,b2⟩:=List.pairwise_cons.1 hb
  have hxy:x=y:=by
   rcases List.mem_cons.1 ((h x).1 List.mem_cons_self) with h1|h1
   ·exact h1
   ·rcases List.mem_cons.1 ((h y).2 List.mem_cons_self) with h2|h2
    ·exact h2.symm
    ·have:=b1 x h1; have:=a1 y h2; omega
  subst hxy;rw[EH a2 b2 (fun m=>?_)]
  constructor
  ·intro hm;rcases List.mem_cons.1 ((h m).1 (List.mem_cons_of_mem _ hm)) with h1|h1
   ·subst h1; have:=a1 m hm; omega
   ·exact h1
  ·intro hm;rcases List.mem_cons.1 ((h m).2 (List.mem_cons_of_mem _ hm)) with h1|h1
   ·subst h1; have:=b1 m hm; omega
   ·exact h1
def Jq{a b:List Node}(ha:gr a)(hb:gr b)(h:∀i,find a i=find b i):a=b :=
 EH ha hb fun m=>by
  constructor
  ·intro hm;have:=(fG ha).2 ⟨hm,rfl⟩;rw[h] at this;exact(bh this).1
  ·intro hm;have:=(fG hb).2 ⟨hm,rfl⟩;rw[<-h] at this;exact(bh this).1
def sW{nodes:List Node}(h:gr nodes)(k:Int):gr (bV nodes k):=by
 unfold bV;split
 ·exact js h _
 ·exact fA h _
def jK{nodes:List Node}(h:gr nodes)(k:Int)(s:Bytes):gr (bm nodes k s):=fA h _
def FE(n:Node):Option Node:=if (n.kind==2)=true then none else some { n with bE:=fO (n.bE-1) }
def mF{nodes:List Node}(h:gr nodes){k:Int}{n:Node}(hk:find nodes k=some n)(i:Int):find (bV nodes k) i=if i=k then FE n else find nodes i:=by
 unfold bV FE;simp only[aD,hk,Option.getD_some];split
 ·rw[gI h]
 ·rw[cN h];simp only[(bh hk).2]
def DB(l:List ct)(a b:Bytes):dB (dB l a) b=dB (dB l b) a:=by
 simp only[dB,List.filter_filter];congr 1;funext e;rw[Bool.and_comm]
def Qk{nodes:List Node}(h:gr nodes){f to y:Int}{s nm:Bytes}{dF dT m:Node}(hF:find nodes f=some dF)(hT:find nodes to=some dT)(hy:find nodes y=some m)(h1:y≠f)(h2:y≠to) :
  bV (bm (bm nodes f s) to nm) y=bm (bV (bm nodes to nm) y) f s:=by
 have a1:=jK h f s;have a2:=jK h to nm;have a3:=jK a1 to nm;have a4:=sW a2 y;have f1:=er h hF (s:=s);have f2:=er h hT (s:=nm);have hy1:find (bm nodes to nm) y=some m:=by rw[f2,if_neg h2]; exact hy
 have f4:=mF a2 hy1;obtain⟨dT',hT'⟩:∃dT',find (bm nodes f s) to=some dT':=by rw[f1]; split<;>simp_all
 have f3:=er a1 hT' (s:=nm);have hy3:find (bm (bm nodes f s) to nm) y=some m:=by rw[f3,if_neg h2,f1,if_neg h1]; exact hy
 have f5:=mF a3 hy3;obtain⟨dF',hF'⟩:∃dF',find (bV (bm nodes to nm) y) f=some dF':=by rw[f4,if_neg (fun hh=>h1 hh.symm),f2]; split<;>simp_all
 have f6:=er a4 hF' (s:=s);refine Jq (sW a3 y) (jK a4 f s) (fun i=>?_)
 rw[f5,f6,f4,f3];rw[f1] at hT';rw[f4,if_neg (fun hh=>h1 hh.symm),f2] at hF'
 by_cases i1:i=y
 ·subst i1; simp[h1]
 ·simp only[i1,↓reduceIte]
  by_cases i2:i=to
  ·subst i2;simp only[↓reduceIte]
   by_cases i3:i=f
   ·subst i3;simp only[↓reduceIte] at hT' hF' ⊢;injection hT' with hT'; injection hF' with hF'
    rw[<-hT',<-hF'];rw[hF] at hT; cases hT;simp only[DB]
   ·simp only[i3,↓reduceIte] at hT' ⊢;rw[f2]; simp only[↓reduceIte];rw[hT] at hT'; injection hT' with hT'; rw[hT']
  ·simp only[i2,↓reduceIte];rw[f1,f2]
   by_cases i3:i=f
   ·subst i3;simp only[↓reduceIte,i2] at hF' ⊢;rw[hF] at hF'; injection hF' with hF'; rw[hF']
   ·simp only[i3,i2,↓reduceIte]
def AY{l:List ct}{s:Bytes}{e:ct}(h:cB l s=some e):(dB l s).length<l.length:=by
 obtain⟨h1,h2⟩:=dH h;refine Nat.lt_of_le_of_ne (List.length_filter_le _ _) fun hh=>?_
 have:=List.length_filter_eq_length_iff.1 hh e h1;simp[h2] at this
def bK.UY{t:Tree}{dep dep':Int->Nat}{f to:Int}{s nm:Bytes}{dF dT m:Node}{e:ct}(h:bK t dep 0)(hF:find t.nodes f=some dF)(he:cB dF.av s=some e)(hT:find t.nodes to=some dT)(hTk:dT.kind=2)(hfree:cB dT.av nm=none)(hroom:to≠f->dT.av.length<64)(hnm:Nm nm)
  (hm:find t.nodes e.ino=some m) (hne:e.ino≠to) (hd12:dep' to<12) (hck:t.af<1099511627776)
  (hcase:(m.kind=1/\dep'=dep)\/(m.kind=2/\dep' 1=0/\(∀i n,find t.nodes i=some n->n.kind=2->i≠1->i≠e.ino->dep' i=dep' n.up+1)/\dep' e.ino=dep' to+1 /\
   ∀i n,find t.nodes i=some n->n.kind=2->dep' i<=12/\(dep' i=12->n.av=[]))):bK (lB t f s to nm e.ino 0) dep' 0:=by
 have hem:=(dH he).1;have hnf:e.ino≠f:=h.oM hF hem;have h1:e.ino≠1:=(h.vZ _ _ e hF hem).2.2.1;have hl:=h.left hF he;have fl:=er h.fN.hV hF (s:=s);have hmx:find (bm t.nodes f s) e.ino=some m:=by rw[fl,if_neg hnf]; exact hm
 obtain⟨d1,g1,g2,g3,g4⟩:∃d1,find (bm t.nodes f s) to=some d1/\d1.kind=2/\cB d1.av nm=none/\d1.av.length<64:=by
  rw[fl];split
  ·rename_i hh;subst hh;rw[hF] at hT; cases hT;exact⟨_,rfl,hTk,mW hfree,Nat.lt_of_lt_of_le (AY he) (h.few hF)⟩
  ·rename_i hh;exact⟨dT,hT,hTk,hfree,hroom hh⟩
 have hnode:aD t.nodes e.ino=m:=by simp[aD,hm]
 unfold lB;simp only[hnode,bne_self_eq_false,Bool.false_eq_true,↓reduceIte];rcases hcase with ⟨hk,rfl⟩|⟨hk,c1,c2,c3,c4⟩
 ·rw[if_neg (by simp[hk])]
  exact hl.fR g1 g2 g3 g4 hnm hmx h1 (fun h2=>by omega) hd12 hck
 ·rw[if_pos (by simp[hk])]
  have hs:=hl.ahu (dep':=dep') hmx hk h1 g1 g2 c1 (fun i n hi hk2 hi1 hie=>by
    simp only[fl] at hi;split at hi
    ·rename_i hh; subst hh;cases hi;exact c2 i dF hF hk2 hi1 hie
    ·exact c2 _ _ hi hk2 hi1 hie) c3 (fun i n hi hk2=>by
    simp only[fl] at hi;split at hi
    ·rename_i hh; subst hh;cases hi;obtain⟨q1,q2⟩:=c4 i dF hF hk2;exact⟨q1,fun h12=>by simp[q2 h12,dB]⟩
    ·exact c4 _ _ hi hk2)
  have hmi:m.ino=e.ino:=(bh hm).2;have fw:=cN (jK h.fN.hV f s) { m with up:=to }
  refine hs.fR (n:=d1) (m:={ m with up:=to }) ?_ g2 g3 g4 hnm ?_ h1 (fun _=>rfl) hd12 hck
  ·simp only;rw[fw];rw[if_neg (show ¬to=m.ino from fun hh=>hne (by omega))]
   exact g1
  ·simp only;rw[fw];simp only[hmi,↓reduceIte]
def mH(nodes:List Node)(at' d:Int)(n:Node):Int :=
 if decide ((0:Int)<n.av.length)=true then fO (fO (fO (at'+gU nodes n.ino)-d)+1) else fO (fO (at'+gU nodes n.ino)-d)
def BG(nodes:List Node)(ino at' d:Int)(n:Node)(most:Int):most<=jZ nodes ino at' d n most/\((n.kind==2&&ei nodes n.ino ino)=true->mH nodes at' d n<=jZ nodes ino at' d n most):=by
 have e:jZ nodes ino at' d n most=if (n.kind==2&&ei nodes n.ino ino)=true then (if mH nodes at' d n>most then mH nodes at' d n else most) else most:=rfl
 rw[e];split
 ·split
  ·exact⟨by omega,fun _=>Int.le_refl _⟩
  ·exact⟨Int.le_refl _,fun _=>by omega⟩
 ·rename_i h; exact⟨Int.le_refl _,fun hh=>absurd hh h⟩
def tK(nodes:List Node)(ino at' d:Int):∀(l:List Node)(most:Int),most<=nK nodes ino at' d l most/\∀n,n∈l->(n.kind==2&&ei nodes n.ino ino)=true->mH nodes at' d n<=nK nodes ino at' d l most
 | [],most=>⟨Int.le_refl _,fun n hn=>by cases hn⟩
 |m::l,most=>by
  obtain⟨h1,h2⟩:=tK nodes ino at' d l (jZ nodes ino at' d m most);obtain⟨h3,h4⟩:=BG nodes ino at' d m most;rw[nK];refine⟨by omega,fun n hn hb=>?_⟩
  rcases List.mem_cons.1 hn with rfl|hn
  ·have:=h4 hb; omega
  ·exact h2 n hn hb
def jm(nodes:List Node)(dep:Int->Nat)(x to:Int):Int->Nat:=fun i=>if ei nodes i x=true then dep i+(dep to+1)-dep x else dep i
def bK.yf{t:Tree}{dep:Int->Nat}(h:bK t dep 0){x to i:Int}{m n:Node}(hx:find t.nodes x=some m)(hk:m.kind=2)(hd:dep to<12)(hi:find t.nodes i=some n)(hk2:n.kind=2)(hb:ei t.nodes i x=true) :
  mH t.nodes (((dep to+1:Nat):Int)) (dep x) n=((jm t.nodes dep x to i+(if 0<n.av.length then 1 else 0):Nat):Int):=by
 have d1:=(h.deep _ _ hi hk2).1;have d2:=(h.deep _ _ hx hk).1;have d3:=h.th _ i n hi hk2 rfl hb;have hdn:gU t.nodes n.ino=dep i:=by rw[h.ino hi]; exact h.ib hi hk2
 have w1:fO ((((dep to+1:Nat):Int))+(dep i:Nat))=(((dep to+1:Nat):Int))+(dep i:Nat):=cL (by omega) (by omega)
 have w2:fO ((((dep to+1:Nat):Int))+(dep i:Nat)-(dep x:Nat))=(((dep to+1:Nat):Int))+(dep i:Nat)-(dep x:Nat):=cL (by omega) (by omega)
 have w3:fO ((((dep to+1:Nat):Int))+(dep i:Nat)-(dep x:Nat)+1)=(((dep to+1:Nat):Int))+(dep i:Nat)-(dep x:Nat)+1:=cL (by omega) (by omega)
 unfold mH jm;rw[if_pos hb,hdn,w1,w2,w3]
 by_cases hl:0<n.av.length
 ·rw[if_pos (by simpa using hl),if_pos hl]; omega
 ·rw[if_neg (by simpa using hl),if_neg hl]; omega
def bK.ZO{t:Tree}{dep:Int->Nat}(h:bK t dep 0){x to:Int}{m dT:Node}(hx:find t.nodes x=some m)(hk:m.kind=2)(hx1:x≠1)(hT:find t.nodes to=some dT)(hTk:dT.kind=2)(hnb:ei t.nodes to x=false)(hd:dep to<12)
  (hh:uL t.nodes x (((dep to+1:Nat):Int))<=12) :
  jm t.nodes dep x to 1=0/\(∀i n,find t.nodes i=some n->n.kind=2->i≠1->i≠x->jm t.nodes dep x to i=jm t.nodes dep x to n.up+1)/\jm t.nodes dep x to x=jm t.nodes dep x to to+1 /\
   (∀i n,find t.nodes i=some n->n.kind=2->jm t.nodes dep x to i<=12/\(jm t.nodes dep x to i=12->n.av=[]))/\jm t.nodes dep x to to=dep to:=by
 have hto:jm t.nodes dep x to to=dep to:=by unfold jm; rw[if_neg (by simp[hnb])]
 refine⟨?_,?_,?_,?_,hto⟩
 ·unfold jm;rw[if_neg (by simp[bK.vQ hx1])]
  exact h.AX
 ·intro i n hi hk2 hi1 hix;obtain⟨a,p,b,c⟩:=h.oq _ _ hi hk2 hi1;have hb:=h.AE hi hk2 hi1 hix;unfold jm;rw[hb];split
  ·rename_i hb2;have:=h.th _ _ p b c rfl hb2;omega
  ·exact a
 ·rw[hto];unfold jm;rw[if_pos (bK.qR x)];omega
 ·intro i n hi hk2
  by_cases hb:ei t.nodes i x=true
  ·have h1:=(tK t.nodes x (((dep to+1:Nat):Int)) (gU t.nodes x) t.nodes 0).2 n (bh hi).1 (by rw[hk2,h.ino hi,hb]; rfl)
   rw[h.ib hx hk,h.yf hx hk hd hi hk2 hb] at h1;unfold uL at hh;rw[h.ib hx hk] at hh;have h2:=Int.le_trans h1 hh;split at h2
   ·rename_i hl;exact⟨by omega,fun h12=>by omega⟩
   ·rename_i hl;exact⟨by omega,fun _=>List.length_eq_zero_iff.1 (by omega)⟩
  ·have:jm t.nodes dep x to i=dep i:=by unfold jm; rw[if_neg hb]
   rw[this];exact h.deep _ _ hi hk2
def wg{l:List ct}{s r:Bytes}(h:r≠s):cB (dB l s) r=cB l r:=by
 unfold cB dB;rw[List.find?_filter];congr 1;funext e
 by_cases he:e.name=r
 ·have hn:e.name≠s:=he▸h;simp[he,h]
 ·simp[he]
structure aaM(t:Tree)(dep:Int->Nat)(f:Int)(s:Bytes)(to:Int)(nm:Bytes)(dF dT m:Node)(e:ct):Prop where
 hF:find t.nodes f=some dF
 kF:dF.kind=2
 he:cB dF.av s=some e
 hT:find t.nodes to=some dT
 kT:dT.kind=2
 hn:cr nm=true
 hm:find t.nodes e.ino=some m
 ne:e.ino≠to
 nf:e.ino≠f
 loop:m.kind=2->ei t.nodes to e.ino=false
 deep:dep to<12
 high:m.kind=2->uL t.nodes e.ino (((dep to+1:Nat):Int))<=12
 af:t.af<1099511627776
 room:cB dT.av nm=none->to≠f->dT.av.length<64
 anQ:∀e2,cB dT.av nm=some e2->e2.ino≠e.ino/\∃y,find t.nodes e2.ino=some y/\y.av=[]/\(m.kind=2↔y.kind=2)/\e2.ino≠f/\e2.ino≠to
def bK.mv{t:Tree}{dep:Int->Nat}(h:bK t dep 0){f:Int}{s:Bytes}{to:Int}{nm:Bytes}{dF dT m:Node}{e:ct}(hs:cr nm=true->Nm nm)(k:aaM t dep f s to nm dF dT m e):∃dep',bK (lB t f s to nm e.ino (dr dT.av nm)) dep' 0:=by
 have hem:=(dH k.he).1;have hx1:=(h.vZ _ _ e k.hF hem).2.2.1
 have hcase:∃dep':Int->Nat,dep' to<12/\((m.kind=1/\dep'=dep)\/(m.kind=2/\dep' 1=0/\(∀i n,find t.nodes i=some n->n.kind=2->i≠1->i≠e.ino->dep' i=dep' n.up+1)/\dep' e.ino=dep' to+1 /\
   ∀i n,find t.nodes i=some n->n.kind=2->dep' i<=12/\(dep' i=12->n.av=[]))):=by
  rcases h.kind _ _ k.hm with hk|hk
  ·exact⟨dep,k.deep,.inl ⟨hk,rfl⟩⟩
  ·obtain⟨c1,c2,c3,c4,c5⟩:=h.ZO k.hm hk hx1 k.hT k.kT (k.loop hk) k.deep (k.high hk);exact⟨jm t.nodes dep e.ino to,by rw[c5]; exact k.deep,.inr ⟨hk,c1,c2,c3,c4⟩⟩
 obtain⟨dep',hd12,hcase⟩:=hcase;refine⟨dep',?_⟩;cases hfr:cB dT.av nm with
 |none =>
  have hu:dr dT.av nm=0:=by simp[dr,hfr]
  rw[hu];exact h.UY k.hF k.he k.hT k.kT hfr (k.room hfr) (hs k.hn) k.hm k.ne hd12 k.af hcase
 |some e2 =>
  have hu:dr dT.av nm=e2.ino:=by simp[dr,hfr]
  rw[hu];obtain⟨q1,y,q2,q3,q4,q5,q6⟩:=k.anQ e2 hfr;have h1:=h.un k.hT hfr q2 q3;have a2:=jK h.fN.hV to nm;have f2:=er h.fN.hV k.hT (s:=nm);have hy1:find (bm t.nodes to nm) e2.ino=some y:=by rw[f2,if_neg q6]; exact q2
  have f4:∀i,find (bV (bm t.nodes to nm) e2.ino) i=if i=e2.ino then FE y else if i=to then some { dT with av:=dB dT.av nm } else find t.nodes i:=by
   intro i;rw[mF a2 hy1,f2]
  have hnn:aD (bV (bm t.nodes to nm) e2.ino) e.ino=aD t.nodes e.ino:=by
   simp only[aD];rw[f4,if_neg (fun hh=>q1 hh.symm),if_neg k.ne]
  have hy0:=(h.num _ _ q2).1
  have hmv:lB t f s to nm e.ino e2.ino=lB ⟨bV (bm t.nodes to nm) e2.ino,t.next,t.af⟩ f s to nm e.ino 0:=by
   unfold lB;simp only[hnn];rw[Qk h.fN.hV k.hF k.hT q2 q5 q6];have e1:(e2.ino != 0)=true:=by simp; omega
   simp only[e1,bne_self_eq_false,Bool.false_eq_true,↓reduceIte]
  rw[hmv]
  have hsn:to=f->s≠nm:=fun hh hsn=>by
   subst hh; subst hsn;have:=k.hF; rw[k.hT] at this; cases this;have:=k.he; rw[hfr] at this; cases this;exact q1 rfl
  obtain⟨dF',g1,g2⟩:∃dF',find (bV (bm t.nodes to nm) e2.ino) f=some dF'/\cB dF'.av s=some e:=by
   rw[f4,if_neg (fun hh=>q5 hh.symm)]
   split
   ·rename_i hh;refine⟨_,rfl,?_⟩;rw[wg (hsn hh.symm)];subst hh;have:=k.hF; rw[k.hT] at this; cases this;exact k.he
   ·exact⟨dF,k.hF,k.he⟩
  have back:∀i n,find (bV (bm t.nodes to nm) e2.ino) i=some n->n.kind=2->∃n0,find t.nodes i=some n0/\n0.kind=2/\n0.up=n.up/\(n0.av=[]->n.av=[]):=by
   intro i n hi hk;rw[f4] at hi;split at hi
   ·unfold FE at hi;split at hi
    ·cases hi
    ·rename_i hh;cases hi;simp only at hk;simp[hk] at hh
   ·split at hi
    ·rename_i hh; subst hh;cases hi;exact⟨dT,k.hT,hk,rfl,fun h0=>by simp[h0,dB]⟩
    ·exact⟨n,hi,hk,rfl,fun h0=>h0⟩
  refine h1.UY (dep':=dep') g1 g2 (dT:={ dT with av:=dB dT.av nm }) ?_ k.kT (uH _ _) (fun _=>Nat.lt_of_lt_of_le (AY hfr) (h.few k.hT)) (hs k.hn) (m:=m) ?_ k.ne hd12 k.af ?_
  ·simp only; rw[f4,if_neg (fun hh=>q6 hh.symm),if_pos rfl]
  ·simp only; rw[f4,if_neg (fun hh=>q1 hh.symm),if_neg k.ne]; exact k.hm
  ·rcases hcase with hc|⟨hk,c1,c2,c3,c4⟩
   ·exact .inl hc
   ·refine .inr ⟨hk,c1,?_,c3,?_⟩
    ·intro i n hi hk2 hi1 hie;obtain⟨n0,b1,b2,b3,_⟩:=back i n hi hk2;rw[<-b3]; exact c2 i n0 b1 b2 hi1 hie
    ·intro i n hi hk2;obtain⟨n0,b1,b2,_,b4⟩:=back i n hi hk2;exact⟨(c4 i n0 b1 b2).1,fun h12=>b4 ((c4 i n0 b1 b2).2 h12)⟩
def bK.zero{t:Tree}{dep:Int->Nat}{x:Int}(h:bK t dep x):find t.nodes 0=none:=by
 cases hz:find t.nodes 0 with
 |none=>rfl
 |some m=>have:=h.num _ _ hz; omega
def Hx{t:Tree}{dep:Int->Nat}(h:bK t dep 0)(f:Int)(s:Bytes)(to:Int)(nm:Bytes) :
  ((pJ t f s to nm).1=t/\(pJ t f s to nm).2.1=0/\(pJ t f s to nm).2.2≠0) \/
  (pJ t f s to nm=(t,0,0)/\∃dF dT e e2,find t.nodes f=some dF/\dF.kind=2/\cr s=true/\cB dF.av s=some e/\bM t.nodes f s=(e.ino,0)/\find t.nodes to=some dT/\dT.kind=2/\cr nm=true/\cB dT.av nm=some e2/\e2.ino=e.ino) \/
  ∃dF dT m e,aaM t dep f s to nm dF dT m e/\cr s=true/\bM t.nodes f s=(e.ino,0)/\pJ t f s to nm=(lB t f s to nm e.ino (dr dT.av nm),dr dT.av nm,0):=by
 unfold pJ;split
 ·rename_i c1; exact .inl ⟨rfl,rfl,by simpa using c1⟩
 rename_i c1;split
 ·rename_i c2; exact .inl ⟨rfl,rfl,by simpa using c2⟩
 rename_i c2;split
 ·exact .inl ⟨rfl,rfl,by simp⟩
 rename_i c3;obtain⟨dF,e,e1,e2,e3,e4,e5⟩:=look_ok (by simpa using c1)
 obtain⟨dT,g1,g2,g3⟩:=qW (show(cK t.nodes to).2=0 by simpa using c2)
 have hem:=(dH e4).1;obtain⟨_,_,x1,_,m,hm,hup⟩:=h.vZ _ _ e e1 hem;have hnode:aD t.nodes e.ino=m:=by simp[aD,hm]
 simp only[e5,g3,hnode];split
 ·rename_i c4;right; left;refine⟨rfl,dF,dT,e,?_⟩;have c4':dr dT.av nm=e.ino:=by simpa using c4
  cases hfr:cB dT.av nm with
  |none=>simp only[dr,hfr] at c4'; have:=(h.num _ _ hm).1; omega
  |some e2'=>simp only[dr,hfr] at c4'; exact⟨e2',e1,e2,e3,e4,rfl,g1,g2,by simpa using c3,rfl,c4'⟩
 rename_i c4;split
 ·exact .inl ⟨rfl,rfl,by simp⟩
 rename_i c5;split
 ·rename_i c6; exact .inl ⟨rfl,rfl,by simpa using c6⟩
 rename_i c6;split
 ·exact .inl ⟨rfl,rfl,by simp⟩
 rename_i c7;right; right;have hdt:=h.ib g1 g2;simp only[manyN,hdt,Bool.or_eq_true,Bool.and_eq_true,beq_iff_eq,decide_eq_true_eq,not_or,not_and,bne_iff_ne] at c7;obtain⟨r1,r2,r3,r4⟩:=c7
 have hw:fO (((dep to:Nat):Int)+1)=((dep to+1:Nat):Int):=by
  have:=(h.deep _ _ g1 g2).1;rw[show(((dep to:Nat):Int)+1)=((dep to+1:Nat):Int) by omega]
  exact cL (by omega) (by omega)
 rw[hw] at r3;have hnf:=h.oM e1 hem
 have hne:e.ino≠to:=fun hh=>by
  rw[hh,g1] at hm; cases hm;simp only[g2,beq_self_eq_true,Bool.true_and] at c5;rw[hh,bK.qR] at c5;exact c5 rfl
 refine⟨dF,dT,m,e,⟨e1,e2,e4,g1,g2,by simpa using c3,hm,hne,hnf,?_,by omega,?_,by omega,?_,?_⟩,e3,rfl,rfl⟩
 ·intro hk;simpa[hk] using c5
 ·intro hk;have:=r3 hk; omega
 ·intro hfr hne;have hu:dr dT.av nm=0:=by simp[dr,hfr]
  have:=r1 ⟨hu,hne⟩;omega
 ·intro e2' hfr;have hu:dr dT.av nm=e2'.ino:=by simp[dr,hfr]
  rw[hu] at c4 c6;obtain⟨_,_,_,_,y,hy,_⟩:=h.vZ _ _ e2' g1 (dH hfr).1;have hny:aD t.nodes e2'.ino=y:=by simp[aD,hy]
  have hto:=h.oM g1 (dH hfr).1;simp only[mw,hy,Option.isSome_some,Bool.not_true,Bool.false_eq_true,↓reduceIte,hny,bne_iff_ne,ne_eq,Decidable.not_not] at c6;split at c6
  ·cases c6
  ·rename_i k1;split at c6
   ·cases c6
   ·rename_i k2;split at c6
    ·cases c6
    ·rename_i k3;have hy0:y.av=[]:=List.length_eq_zero_iff.1 (by simpa using k3)
     refine⟨by simpa using c4,y,hy,hy0,?_,?_,hto⟩
     ·simp at k1 k2;constructor
      ·exact k1
      ·intro hy2;rcases h.kind _ _ hm with hk|hk
       ·exact absurd hy2 (k2 (by omega))
       ·exact hk
     ·intro hh;rw[hh,e1] at hy; cases hy;rw[hy0] at hem; cases hem
def Tx{t:Tree}{dep:Int->Nat}(h:bK t dep 0)(f:Int)(s:Bytes)(to:Int)(nm:Bytes)(hs:cr nm=true->Nm nm):∃dep',bK (pJ t f s to nm).1 dep' 0:=by
 rcases Hx h f s to nm with ⟨h1,_⟩|⟨h1,_⟩|⟨dF,dT,m,e,k,_,_,hk⟩
 ·rw[h1]; exact⟨dep,h⟩
 ·rw[h1]; exact⟨dep,h⟩
 ·rw[hk]; exact h.mv hs k
def OX:bK ov (fun _=>0) 0:=by
 have hf:∀i n,find ov.nodes i=some n->i=1/\n=⟨1,2,0,[],[],1⟩:=by
  intro i n hi;obtain⟨h1,h2⟩:=bh hi;simp[ov] at h1;subst h1;exact⟨h2.symm,rfl⟩
 refine⟨⟨?_,?_⟩,⟨_,rfl,rfl,rfl⟩,?_,?_,?_,?_,?_,?_,?_,?_,rfl,?_,?_,by simp[ov],by simp[ov],by simp[ov]⟩
 ·simp[ov,gr]
 ·intro n hn; simp[ov] at hn; subst hn; exact List.Pairwise.nil
 ·intro i n hi; obtain⟨rfl,rfl⟩:=hf i n hi; simp[ov]
 ·intro i n hi; obtain⟨rfl,rfl⟩:=hf i n hi; simp
 ·intro i n hi; obtain⟨rfl,rfl⟩:=hf i n hi; simp
 ·intro i n hi; obtain⟨rfl,rfl⟩:=hf i n hi; simp
 ·intro i n e hi he; obtain⟨rfl,rfl⟩:=hf i n hi; cases he
 ·intro i n hi; obtain⟨rfl,rfl⟩:=hf i n hi; exact⟨List.Pairwise.nil,by simp⟩
 ·intro i n hi; obtain⟨rfl,rfl⟩:=hf i n hi; simp[ov,mB,jg]
 ·intro i n hi _ h1; exact absurd (hf i n hi).1 h1
 ·intro i n hi _ h1; exact absurd (hf i n hi).1 h1
 ·intro i n hi; obtain⟨rfl,rfl⟩:=hf i n hi; simp
section
attribute [local irreducible] bS cz fu gK bG kr ag ar aQ aG
def oI:∀(d:Bytes),bytesOf (d.map hZ)=some d
 | []=>rfl
 |b::d=>by
  rw[List.map_cons]
  show aG (bytesOf (d.map hZ)) (fun l=>some (UInt8.ofNat ((b.toNat:Int)).toNat::l))=some (b::d)
  rw[oI d,aI];simp
def c99(a b:Bytes):ag aH 99 [bc a,bc b] []=some (.bool (a==b),[]):=by
 refine ai ?_;simp only[Xa,E99,oI,EN,simprocAttr]
def k99 a b:=cP (c99 a b)
def akT(x y:ct):decide (x=y)=(x.name==y.name&&(x.ino==y.ino&&(x.af==y.af&&true))):=by
 cases x; cases y;simp only[ct.mk.injEq,Bool.and_true];rw[Bool.eq_iff_iff];simp
def Jf(x y:ct):eB [.s,.i,.i] (bU x) (bU y)=some (decide (x=y)):=by
 rw[akT];simp only[bU,eB,fx,aI,↓reduceIte]
def IL(x:ct):(bU x).all ae.dp=true:=rfl
def aiA(x:Node):(an x).all ae.dp=true:=rfl
def SI{a b:List ct}(ha:a.length<=100000){k:List K}{R:Bool->Option (ae×aj)}
  (hx:∀e,kr (ag aH) [.tmp 4] 0 k ⟨.exit 0,e,[]⟩=R true) (hr:kr (ag aH) [.tmp 4] 0 k ⟨.ret,[(4,.bool false)],[]⟩=R false) :
  ∀(l m pre pre':List ct),a=pre++l->b=pre'++m->pre.length=pre'.length->l.length=m.length->bS (ag aH) [.tmp 4] 0 k (.loop [0,1,12,13] RR) [(0,cT a),(1,cT b),(12,.int .i64 a.length),(13,.int .i64 pre.length)] []=R (decide (l=m)):=by
 intro l;induction l with
 |nil =>
  intro m pre pre' h h' hp hl;have hm:m=[]:=List.length_eq_zero_iff.1 hl.symm;subst hm;rw[aC];simp only[y9,cQ h,EN,simprocAttr];exact hx _
 |cons n r ih =>
  intro m pre pre' h h' hp hl;cases m with
  |nil=>cases hl
  |cons n' m =>
  rw[aC];have hlen:pre.length+1<=100000:=by rw[h] at ha; simp at ha; omega
  have hw:=ny pre n;have hi:=ih m (pre++[n]) (pre'++[n']) (by rw[h]; simp) (by rw[h']; simp) (by simp[hp]) (by simpa using hl)
  have ha2:b[pre.length]?=some n':=by rw[hp]; exact bT h'
  have hdc:decide (n::r=n'::m)=(decide (n=n')&&decide (r=m)):=by
   rw[Bool.eq_iff_iff]; simp
  rw[hdc];simp only[List.length_append,List.length_cons,List.length_nil] at hi;simp only[y9,cv h,bT h,ha2,Z3,ZX,Jf,IL,EN,simprocAttr];refine aB (fun hb=>?_) (fun hb=>?_)
  ·have hb':decide (n=n')=false:=by simpa using hb
   simp only[y9,hb',Bool.false_and,EN,simprocAttr];exact hr
  ·have hb':decide (n=n')=true:=by simpa using hb
   simp only[y9,hb',Bool.true_and,hw,EN,simprocAttr];exact hi
def acA(a b:List ct)(ha:a.length<=100000):ag aH 100 [cT a,cT b] []=some (.bool (decide (a=b)),[]):=by
 refine ai ?_;simp only[Js,y9,EN,simprocAttr];refine aB (fun hb=>?_) (fun hb=>?_)
 ·have:decide (a=b)=false:=by
   simp at hb ⊢;rintro rfl; exact hb rfl
  simp only[y9,this,EN,simprocAttr]
 ·simp only[y9,EN,simprocAttr];exact SI (R:=fun z=>some (.bool z,[])) ha (fun e=>by simp only[y9,EN,simprocAttr]) (by simp only[y9,EN,simprocAttr]) a b [] [] rfl rfl rfl (by simp at hb; omega)
def ak6 a b ha:=cP (acA a b ha)
def UZ(x y:Node):decide (x=y)=(x.ino==y.ino&&(x.kind==y.kind&&(x.bE==y.bE&&(x.up==y.up&&(x.data==y.data&&decide (x.av=y.av)))))):=by
 cases x; cases y;simp only[Node.mk.injEq];rw[Bool.eq_iff_iff];simp only[decide_eq_true_eq,Bool.and_eq_true,beq_iff_eq];constructor
 ·rintro⟨h1,h2,h3,h4,h5,h6⟩; exact⟨h1,h2,h3,h6,h4,h5⟩
 ·rintro⟨h1,h2,h3,h6,h4,h5⟩; exact⟨h1,h2,h3,h4,h5,h6⟩
def c98(x y:Node)(hx:x.av.length<=100000):ag aH 98 [aF x,aF y] []=some (.bool (decide (x=y)),[]):=by
 rw[UZ];refine ai ?_;simp only[W9,E98,aF,an,EN,simprocAttr]
 repeat' ((first|refine aB (fun hb=>?_) (fun hb=>?_)|refine aJ (fun hb=>?_) (fun hb=>?_)|refine bp (fun hb=>?_) (fun hb=>?_))<;>simp only[hb,EN,E98,k99,ak6,hx,simprocAttr])
 all_goals simp_all only[iw,↓reduceIte,reduceCtorEq,bne_self_eq_false]
def k98(x y:Node)(hx:x.av.length<=100000)(M:aj):ar (ag aH) 98 [.agg (an x),.agg (an y)] M=some (.bool (decide (x=y)),M):=cO (c98 x y hx) M
def SJ{a b:List Node}(ha:a.length<=100000)(he:∀n,n∈a->n.av.length<=100000){k:List K}{R:Bool->Option (ae×aj)}
  (hx:∀e,kr (ag aH) [.tmp 6] 0 k ⟨.exit 0,e,[]⟩=R true) (hr:∀M,kr (ag aH) [.tmp 6] 0 k ⟨.ret,[(6,.bool false)],M⟩=R false) :
  ∀(l m pre pre':List Node),a=pre++l->b=pre'++m->pre.length=pre'.length->l.length=m.length->bS (ag aH) [.tmp 6] 0 k (.loop [1,2,15,16,17] RS) [(1,au b),(2,.func 98 []),(15,au a),(16,.int .i64 a.length),(17,.int .i64 pre.length)] []=R (decide (l=m)):=by
 intro l;induction l with
 |nil =>
  intro m pre pre' h h' hp hl;have hm:m=[]:=List.length_eq_zero_iff.1 hl.symm;subst hm;rw[aC];simp only[za,cQ h,EN,simprocAttr];exact hx _
 |cons n r ih =>
  intro m pre pre' h h' hp hl;cases m with
  |nil=>cases hl
  |cons n' m =>
  rw[aC];have hlen:pre.length+1<=100000:=by rw[h] at ha; simp at ha; omega
  have hw:=ny pre n;have hi:=ih m (pre++[n]) (pre'++[n']) (by rw[h]; simp) (by rw[h']; simp) (by simp[hp]) (by simpa using hl)
  have ha2:b[pre.length]?=some n':=by rw[hp]; exact bT h'
  have hen:=he n (by rw[h]; simp)
  have hdc:decide (n::r=n'::m)=(decide (n=n')&&decide (r=m)):=by
   rw[Bool.eq_iff_iff]; simp
  have hfl:List.flatMap ae.fP (an n)=[]:=rfl;have hfl':List.flatMap ae.fP (an n')=[]:=rfl;rw[hdc];simp only[List.length_append,List.length_cons,List.length_nil] at hi;simp only[za,cv h,bT h,ha2,tkN,shN,aiA,k98,hen,hfl,hfl',EN,simprocAttr];refine aB (fun hb=>?_) (fun hb=>?_)
  ·have hb':decide (n=n')=false:=by simpa using hb
   simp only[za,hb',Bool.false_and,EN,simprocAttr];exact hr _
  ·have hb':decide (n=n')=true:=by simpa using hb
   simp only[za,hb',Bool.true_and,hw,EN,simprocAttr];exact hi
def aiQ(a b:List Node)(ha:a.length<=100000)(he:∀n,n∈a->n.av.length<=100000):ag aH 101 [au a,au b,.func 98 []] []=some (.bool (decide (a=b)),[]):=by
 refine ai ?_;simp only[Jt,za,EN,simprocAttr];refine aB (fun hb=>?_) (fun hb=>?_)
 ·have:decide (a=b)=false:=by
   simp at hb ⊢;rintro rfl; exact hb rfl
  simp only[za,this,EN,simprocAttr]
 ·simp only[za,EN,simprocAttr];exact SJ (R:=fun z=>some (.bool z,[])) ha he (fun e=>by simp only[za,EN,simprocAttr]) (fun M=>by simp only[za,EN,simprocAttr]) a b [] [] rfl rfl rfl (by simp at hb; omega)
def ak7 a b ha he:=cP (aiQ a b ha he)
def ahE(x y:Tree):decide (x=y)=(x.next==y.next&&(x.af==y.af&&decide (x.nodes=y.nodes))):=by
 cases x; cases y;simp only[Tree.mk.injEq];rw[Bool.eq_iff_iff];simp only[decide_eq_true_eq,Bool.and_eq_true,beq_iff_eq];constructor
 ·rintro⟨h1,h2,h3⟩; exact⟨h2,h3,h1⟩
 ·rintro⟨h2,h3,h1⟩; exact⟨h1,h2,h3⟩
def c41(a b:Tree)(ha:Small a):ag aH 41 [aA a,aA b] []=some (.bool (decide (a=b)),[]):=by
 rw[ahE];have h1:=ha.nodes;have h2:=ha.av;refine ai ?_;simp only[WK,E41,aA,ak,EN,simprocAttr]
 repeat' ((first|refine aB (fun hb=>?_) (fun hb=>?_)|refine aJ (fun hb=>?_) (fun hb=>?_)|refine bp (fun hb=>?_) (fun hb=>?_))<;>simp only[hb,EN,E41,ak7 _ _ h1 h2,simprocAttr])
 all_goals simp_all only[iw,↓reduceIte,reduceCtorEq,bne_self_eq_false]
def bK.dw{t:Tree}{dep:Int->Nat}{x:Int}(h:bK t dep x):∀m,m∈t.nodes->m.ino<t.next:=fun m hm=>(h.num _ _ ((fG h.fN.hV).2 ⟨hm,rfl⟩)).2
end
def bK.xl{t:Tree}{dep:Int->Nat}{x:Int}(h:bK t dep x){i:Int}{n:Node}(hi:find t.nodes i=some n)(hk:n.kind=2):jU t.nodes i=dep i:=by
 simp only[jU,h.lQ hi hk]; omega
def bK.H3{t:Tree}{dep:Int->Nat}{x:Int}(h:bK t dep x)(of:Int):∀(m:Nat)(i:Int)(out:List Int)(n:Node),find t.nodes i=some n->n.kind=2->dep i<=m->out.contains i=true->(lP t.nodes m i out).contains of=(out.contains of||fD t.nodes of (m+1) i):=by
 intro m;induction m with
 |zero =>
  intro i out n hi hk hd ho;simp only[lP,fD]
  by_cases h1:i=of
  ·subst h1; rw[ho]; rfl
  ·simp[h1]
 |succ m ih =>
  intro i out n hi hk hd ho;simp only[lP];rw[fD]
  by_cases h1:i=1
  ·by_cases h2:i=of
   ·subst h2; simp[h1] at ho ⊢; exact ho
   ·simp[h1,h2];intro h3; exact absurd (h1.trans h3) h2
  ·obtain⟨a,p,b,c⟩:=h.oq _ _ hi hk h1;simp only[bne_iff_ne,ne_eq,h1,not_false_eq_true,↓reduceIte,aD,hi,Option.isSome_some,Bool.not_true,Option.getD_some,hk,bne_self_eq_false,Bool.or_self,Bool.false_eq_true];rw[ih _ _ p b c (by omega) (by simp),h.Qo hi]
   by_cases h2:i=of
   ·subst h2;have:(out++[n.up]).contains i=true:=by simp at ho ⊢; exact .inl ho
    rw[this,ho]; simp
   ·rw[if_neg h2]
    by_cases h3:n.up=of
    ·have:fD t.nodes of (m+1) n.up=true:=by simp[fD,h3]
     rw[this]; simp
    ·have:(out++[n.up]).contains of=out.contains of:=by
      simp;intro hh; exact absurd hh.symm h3
     rw[this]
def bK.qt{t:Tree}{dep:Int->Nat}{x:Int}(h:bK t dep x)(of:Int){i:Int}{n:Node}(hi:find t.nodes i=some n)(hk:n.kind=2):(kP t.nodes i).contains of=ei t.nodes i of:=by
 have:=h.H3 of t.nodes.length i [i] n hi hk (by have:=h.zt hi hk; omega) (by simp)
 simp only[kP,this,ei]
 by_cases h2:i=of
 ·subst h2; simp[fD]
 ·have:([i]:List Int).contains of=false:=by simp; exact fun hh=>h2 hh.symm
  rw[this]; rfl
def bK.under{t:Tree}{dep:Int->Nat}(h:bK t dep 0){to:Int}{nm:Bytes}{dT:Node}(hT:find t.nodes to=some dT):(fb t.nodes dT.av nm).ino=dr dT.av nm:=by
 unfold fb dr;cases he:cB dT.av nm with
 |none=>rfl
 |some e =>
  obtain⟨_,_,_,_,m,hm,_⟩:=h.vZ _ _ e hT (dH he).1;simp[aD,hm,(bh hm).2]
def OU{t:Tree}{dep:Int->Nat}(h:bK t dep 0)(dir:Int)(s:Bytes):gn t dir s=gz t dir s:=by
 unfold gn gz
 by_cases h0:(cK t.nodes dir).2=0
 ·obtain⟨d,d1,d2,d3⟩:=qW h0
  have hf:wm t d=(decide ((64:Int)<=d.av.length)||(decide ((12:Int)<=jU t.nodes dir)||decide ((1099511627776:Int)<=t.af))):=by
   unfold wm;rw[(bh d1).2,h.ib d1 d2,h.xl d1 d2]
  simp only[d3,hf,bne_self_eq_false,Bool.false_eq_true,↓reduceIte,ne_eq,not_true_eq_false];cases cr s<;>simp
 ·rw[if_pos (by simpa using h0),if_pos h0]
def QR{t:Tree}{dep:Int->Nat}(h:bK t dep 0)(dir:Int)(s:Bytes)(kind:Int):C5 t dir s kind=kf t dir s kind:=by
 unfold C5 kf;rw[OU h]
def YR{t:Tree}{dep:Int->Nat}(h:bK t dep 0)(ino dir:Int)(s:Bytes):lnW t ino dir s=wL t ino dir s:=by
 unfold lnW wL;rw[OU h]
def u6{nodes:List Node}{x:Int}{m:Node}(hx:find nodes x=some m):ec nodes m=bV nodes x:=by
 unfold ec bV;simp only[aD,hx,Option.getD_some,(bh hx).2]
def Z7{t:Tree}{dep:Int->Nat}(h:bK t dep 0)(dir:Int)(s:Bytes):Vi t dir s=vo t dir s:=by
 unfold Vi vo;split
 ·rfl
 ·rename_i hl;obtain⟨d,e,d1,d2,d3,d4,d5⟩:=look_ok (by simpa using hl)
  simp only[d5];obtain⟨_,_,_,_,m,hm,_⟩:=h.vZ _ _ e d1 (dH d4).1
  have hm':find (bm t.nodes dir s) e.ino=some m:=by
   rw[er h.fN.hV d1,if_neg (h.oM d1 (dH d4).1)]; exact hm
  have hn:aD t.nodes e.ino=m:=by simp[aD,hm]
  rw[hn,u6 hm']
def yg(nodes:List Node)(ino at' d:Int)(b:Int):∀(l:List Node)(most:Int),b<nK nodes ino at' d l most->b<most\/∃n,n∈l/\(n.kind==2&&ei nodes n.ino ino)=true/\b<mH nodes at' d n
 | [],most,h => .inl h
 |m::l,most,h=>by
  rw[nK] at h;rcases yg nodes ino at' d b l _ h with h1|⟨n,h1,h2,h3⟩
  ·have e:jZ nodes ino at' d m most=if (m.kind==2&&ei nodes m.ino ino)=true then (if mH nodes at' d m>most then mH nodes at' d m else most) else most:=rfl
   rw[e] at h1;split at h1
   ·rename_i hb;split at h1
    ·exact .inr ⟨m,List.mem_cons_self,hb,h1⟩
    ·exact .inl h1
   ·exact .inl h1
  ·exact .inr ⟨n,List.mem_cons_of_mem _ h1,h2,h3⟩
def bK.Rc{t:Tree}{dep:Int->Nat}(h:bK t dep 0){x to:Int}{m:Node}(hx:find t.nodes x=some m)(hk:m.kind=2)(hd:dep to<12) :
  xV t.nodes x (((dep to+1:Nat):Int))=decide ((12:Int)<uL t.nodes x (((dep to+1:Nat):Int))):=by
 have key:∀n,n∈t.nodes->lk t.nodes (((dep to+1:Nat):Int)) ((dep x:Nat):Int) x n=((n.kind==2&&ei t.nodes n.ino x)&&decide ((12:Int)<mH t.nodes (((dep to+1:Nat):Int)) ((dep x:Nat):Int) n)):=by
  intro n hn;have hi:find t.nodes n.ino=some n:=(fG h.fN.hV).2 ⟨hn,rfl⟩;unfold lk
  by_cases hk2:n.kind=2
  ·rw[h.qt x hi hk2,h.lQ hi hk2]
   by_cases hb:ei t.nodes n.ino x=true
   ·rw[h.yf hx hk hd hi hk2 hb];have d1:=(h.deep _ _ hi hk2).1;have d2:=(h.deep _ _ hx hk).1;have d3:=h.th _ _ n hi hk2 rfl hb;have w1:fO ((((dep to+1:Nat):Int))+((dep n.ino+1:Nat):Int))=(((dep to+1:Nat):Int))+((dep n.ino+1:Nat):Int):=cL (by omega) (by omega)
    have w2:fO ((((dep to+1:Nat):Int))+((dep n.ino+1:Nat):Int)-1)=(((dep to+1:Nat):Int))+((dep n.ino+1:Nat):Int)-1:=cL (by omega) (by omega)
    have w3:fO ((((dep to+1:Nat):Int))+((dep n.ino+1:Nat):Int)-1-(dep x:Nat))=(((dep to+1:Nat):Int))+((dep n.ino+1:Nat):Int)-1-(dep x:Nat):=cL (by omega) (by omega)
    rw[w1,w2,w3];unfold jm;rw[if_pos hb,hb];simp only[hk2,beq_self_eq_true,Bool.true_and];rw[Bool.eq_iff_iff];simp only[Bool.or_eq_true,Bool.and_eq_true,decide_eq_true_eq,beq_iff_eq];split<;>omega
   ·have:ei t.nodes n.ino x=false:=by simpa using hb
    simp[this]
  ·have:(n.kind==2)=false:=by simpa using hk2
   simp[this]
 have hdx:(jU t.nodes x:Int)=((dep x:Nat):Int):=by rw[h.xl hx hk]
 unfold xV uL;rw[h.ib hx hk,hdx];rw[Bool.eq_iff_iff];simp only[List.any_eq_true,decide_eq_true_eq];constructor
 ·rintro⟨n,hn,hp⟩;rw[key n hn] at hp;simp only[Bool.and_eq_true,decide_eq_true_eq] at hp;have:=(tK t.nodes x (((dep to+1:Nat):Int)) ((dep x:Nat):Int) t.nodes 0).2 n hn (by simp[hp.1.1,hp.1.2])
  omega
 ·intro hh;rcases yg t.nodes x _ _ 12 t.nodes 0 hh with h1|⟨n,h1,h2,h3⟩
  ·omega
  ·exact⟨n,h1,by rw[key n h1,h2]; simpa using h3⟩
def Y1{t:Tree}{dep:Int->Nat}(h:bK t dep 0)(f:Int)(s:Bytes)(to:Int)(nm:Bytes):FJ t f s to nm=pJ t f s to nm:=by
 unfold FJ pJ;split
 ·rfl
 rename_i c1;split
 ·rfl
 rename_i c2;split
 ·rfl
 obtain⟨dF,e,e1,e2,e3,e4,e5⟩:=look_ok (by simpa using c1)
 obtain⟨dT,g1,g2,g3⟩:=qW (show(cK t.nodes to).2=0 by simpa using c2)
 have hem:=(dH e4).1;obtain⟨_,_,x1,_,m,hm,hup⟩:=h.vZ _ _ e e1 hem;have hnode:aD t.nodes e.ino=m:=by simp[aD,hm]
 simp only[e5,g3,hnode,h.under g1,h.qt e.ino g1 g2];split
 ·rfl
 rename_i c4;split
 ·rfl
 rename_i c5;have hup':dr dT.av nm≠e.ino:=by simpa using c4
 have hnf:=h.oM e1 hem
 have hne:e.ino≠to:=fun hh=>by
  rw[hh,g1] at hm; cases hm;simp only[g2,beq_self_eq_true,Bool.true_and] at c5;rw[hh,bK.qR] at c5;exact c5 rfl
 have hmany:∀there:Bool,(dr dT.av nm==0) = !there->wN t f to dT.av there m.kind e.ino=manyN t f to dT.av m.kind (dr dT.av nm) e.ino:=by
  intro there hth;unfold wN manyN;rw[hth,h.lQ g1 g2,h.ib g1 g2]
  by_cases hd:dep to<12
  ·have hw:fO (((dep to:Nat):Int)+1)=((dep to+1:Nat):Int):=by
    rw[show(((dep to:Nat):Int)+1)=((dep to+1:Nat):Int) by omega]
    exact cL (by omega) (by omega)
   rw[hw]
   have hdd:decide ((12:Int)<((dep to+1:Nat):Int))=decide ((12:Int)<=((dep to:Nat):Int)):=by
    rw[decide_eq_decide]; omega
   rw[hdd];rcases h.kind _ _ hm with hk|hk
   ·simp[hk]
   ·rw[h.Rc hm hk hd]
  ·have h1:decide ((12:Int)<((dep to+1:Nat):Int))=true:=by rw[decide_eq_true_eq]; omega
   have h2:decide ((12:Int)<=((dep to:Nat):Int))=true:=by rw[decide_eq_true_eq]; omega
   rw[h1,h2]; simp
 cases hfr:cB dT.av nm with
 |none =>
  have hu:dr dT.av nm=0:=by simp[dr,hfr]
  have hm1:=hmany false (by rw[hu]; rfl)
  rw[hu] at hm1 ⊢;have hcl:mw t.nodes m.kind 0=0:=by simp[mw,h.zero]
  simp only[Option.isSome_none,Bool.false_and,Bool.false_eq_true,↓reduceIte,hcl,bne_self_eq_false,hm1];split
  ·rfl
  ·unfold qm lB;simp only[hnode,Bool.false_eq_true,↓reduceIte,bne_self_eq_false]
 |some e2 =>
  have hu:dr dT.av nm=e2.ino:=by simp[dr,hfr]
  obtain⟨_,_,_,_,y,hy,_⟩:=h.vZ _ _ e2 g1 (dH hfr).1;have hny:aD t.nodes e2.ino=y:=by simp[aD,hy]
  have hto:=h.oM g1 (dH hfr).1;have hy0:=(h.num _ _ hy).1;have hm1:=hmany true (by rw[hu]; simp; omega)
  have hnu:fb t.nodes dT.av nm=y:=by simp[fb,hfr,hny]
  rw[hu] at hm1 ⊢
  have hcl:mw t.nodes m.kind e2.ino=sq m y:=by
   unfold mw sq;simp only[hy,Option.isSome_some,Bool.not_true,Bool.false_eq_true,↓reduceIte,hny]
  rw[hnu,hcl];simp only[Option.isSome_some,Bool.true_and,hm1];split
  ·rfl
  rename_i c6;split
  ·rfl
  have hy00:y.av=[]:=by
   have:sq m y=0:=by simpa using c6
   unfold sq at this;split at this
   ·cases this
   split at this
   ·cases this
   split at this
   ·cases this
   ·rename_i k3; exact List.length_eq_zero_iff.1 (by simpa using k3)
  have hnf2:e2.ino≠f:=fun hh=>by
   rw[hh,e1] at hy; cases hy;rw[hy00] at hem; cases hem
  have hyl:find (bm (bm t.nodes f s) to nm) e2.ino=some y:=by
   have f1:=er h.fN.hV e1 (s:=s);obtain⟨dT',hT'⟩:∃dT',find (bm t.nodes f s) to=some dT':=by rw[f1]; split<;>simp_all
   rw[er (jK h.fN.hV f s) hT',if_neg hto,f1,if_neg hnf2];exact hy
  have hb:(e2.ino != 0)=true:=by simp; omega
  unfold qm lB;simp only[hnode,↓reduceIte,hb,u6 hyl]
def Ra{C:bL}{f p:Nat}{x:ct}{r:ae}{M:aj}{z:Int}(hM:nth M p=some (.cells [.int .i64 z]))(h:C f [.agg (bU x),.ptr 0 0] [.cells [.int .i64 z]]=some (r,[.cells [.int .i64 z]]))(h3:r.oN=true)(h5:r.vm (px [p])=r) :
  ar C f [.agg (bU x),.ptr p 0] M=some (r,M):=by
 have hids:[ae.agg (bU x),.ptr p 0].flatMap ae.ids=[p]:=rfl;have hi:iU M [p]=[]:=by simp[iU,hM,aM.ids,ae.fP,ae.cX]
 have e0:eG M [p]=[p]:=by simp[eG,hi,ef]
 have e1:reach M [p]=[p]:=by
  have ea:ef [] [p]=[p]:=rfl;simp only[reach,ea,e0]
 have hfl:[ae.agg (bU x),.ptr p 0].all ae.flat=true:=rfl;unfold ar;rw[if_pos hfl,hids,e1];have hpk:dK M (da [p]) [p]=some [.cells [.int .i64 z]]:=by simp[dK,hM,aM.flat,aM.iE,ae.kK,ae.kJ,ae.n9,ae.x5]
 rw[hpk];simp only[aI];rw[if_pos e0]
 have hrn:[ae.agg (bU x),.ptr p 0].map (ae.iE (da [p]))=[ae.agg (bU x),.ptr 0 0]:=by
  simp[ae.iE,ae.kK,ae.kJ,da,bU]
 rw[hrn,h];simp only[aI];rw[if_pos ⟨by trivial,h3,rfl⟩,h5]
 have hs:eW [p] M [p] [.cells [.int .i64 z]]=M:=by
  simp only[eW,aM.iE,List.map_cons,List.map_nil,ae.kK,ae.kJ];exact gN hM
 rw[hs]
def ahk(xs:List ae)(z:Int):dK [.arr 3 0 xs,.cells [.int .i64 z]] (da [0,1]) [0,1]=some [.arr 3 0 xs,.cells [.int .i64 z]]:=rfl
section
attribute [local irreducible] bS cz fu gK bG kr ag ar aQ aG
def ake(e:ct)(z:Int):ag aH 215 [cn e,.ptr 0 0] [.cells [.int .i64 z]]=some (.bool (decide (e.af<z)),[.cells [.int .i64 z]]):=by
 refine ai ?_;simp only[KE,aie,cn,bU,EN,simprocAttr]
def aen(e:ct)(z:Int)(p:Nat)(M:aj)(hM:nth M p=some (.cells [.int .i64 z])):ar (ag aH) 215 [.agg (bU e),.ptr p 0] M=some (.bool (decide (e.af<z)),M) :=
 Ra hM (ake e z) rfl rfl
def tL(z:Int):List ct->Nat->Int
 | [],_ => -1
 |e::r,i=>if decide (e.af<z)=true then (i:Int) else tL z r (i+1)
def SO{xs:List ct}{z:Int}(hn:xs.length<=100000){k:List K}{R:Int->Option (ae×aj)}
  (hx:∀e,kr (ag aH) [.tmp 4] 2 k ⟨.exit 0,e,[.arr 3 0 (xs.map cn),.cells [.int .i64 z]]⟩=R (-1)) (hr:∀(i:Nat),kr (ag aH) [.tmp 4] 2 k ⟨.ret,[(4,.int .i64 i)],[.arr 3 0 (xs.map cn),.cells [.int .i64 z]]⟩=R i) :
  ∀(l pre:List ct),xs=pre++l->bS (ag aH) [.tmp 4] 2 k (.loop [0,1,7,8] FA) [(0,.aW 0 0 3 0 xs.length),(1,.func 215 [.ptr 1 0]),(7,.int .i64 xs.length),(8,.int .i64 pre.length)] [.arr 3 0 (xs.map cn),.cells [.int .i64 z]]=R (tL z l pre.length):=by
 intro l;induction l with
 |nil =>
  intro pre h;rw[aC];simp only[pT,cQ h,EN,simprocAttr];exact hx _
 |cons n rest ih =>
  intro pre h;rw[aC];have hlen:pre.length+1<=100000:=by rw[h] at hn; simp at hn; omega
  have hw:=ny pre n;have hi:=ih (pre++[n]) (by rw[h]; simp)
  simp only[List.length_append,List.length_cons,List.length_nil] at hi;have q59:=fun e=>aen e z 1 [.arr 3 0 (xs.map cn),.cells [.int .i64 z]] rfl
  have hlt:((pre.length:Int)<((xs.length-0:Nat):Int))=True:=by simp only[eq_iff_iff,iff_true]; rw[h]; simp; omega
  rw[tL];simp only[pT,cv h,bT h,Z3,ZX,q59,hlt,EN,simprocAttr];refine aB (fun hb=>?_) (fun hb=>?_)
  ·simp only[pT,hb,EN,simprocAttr];exact hr _
  ·simp only[pT,hb,hw,Bool.false_eq_true,EN,simprocAttr];exact hi
def ajn(xs:List ct)(z:Int)(hn:xs.length<=100000):ag aH 145 [.aW 0 0 3 0 xs.length,.func 215 [.ptr 1 0]] [.arr 3 0 (xs.map cn),.cells [.int .i64 z]]=some (.int .i64 (tL z xs 0),[.arr 3 0 (xs.map cn),.cells [.int .i64 z]]):=by
 refine ai ?_;simp only[Bh,pT,Nat.sub_zero,EN,simprocAttr];exact SO (R:=fun i=>some (.int .i64 i,[.arr 3 0 (xs.map cn),.cells [.int .i64 z]])) hn (fun e=>by simp only[pT,EN,simprocAttr]) (fun i=>by simp only[pT,EN,simprocAttr]) xs [] rfl
def alo(xs:List ct)(z:Int)(hn:xs.length<=100000):ar (ag aH) 145 [.aW 0 0 3 0 xs.length,.func 215 [.ptr 1 0]] [.arr 3 0 (xs.map cn),.cells [.int .i64 z]]=some (.int .i64 (tL z xs 0),[.arr 3 0 (xs.map cn),.cells [.int .i64 z]]) :=
 eE (ids:=[0,1]) rfl rfl (ahk ..) rfl rfl (ajn xs z hn) rfl rfl rfl rfl rfl
def eS(z:Int)(l:List ct):List ct:=l.filter fun e => !decide (e.af<z)
def re(z:Int)(x:ct)(l:List ct):eS z (x::l)=if decide (x.af<z)=true then eS z l else x::eS z l:=by
 unfold eS;rw[List.filter_cons];cases decide (x.af<z)<;>rfl
def P6(xs:List ct)(b:Nat)(o n:ct)(h:xs[b]?=some o):(dA (xs.map cn) b (putCells (cn o) 0 (bU n)))=(xs.set b n).map cn:=by
 have:putCells (cn o) 0 (bU n)=cn n:=rfl;rw[this,cG,List.map_set]
def Zp(x:ct):(bU x).all ae.plainCell=true:=rfl
def S6{z:Int}{N:Nat}(hN:N<=100000){k:List K}{R:List ct->Nat->Option (ae×aj)}
  (hx:∀(A G:List ct) v q,A.length+G.length=N->G≠[]->kr (ag aH) [.tmp 4] 2 k ⟨.exit 0,[(0,.aW 0 0 3 0 N),(1,.func 215 [.ptr 1 0]),(5,.int .i64 A.length),(6,v),(19,q)],[.arr 3 0 ((A++G).map cn),.cells [.int .i64 z]]⟩=R A G.length) :
  ∀(T A G:List ct),A.length+G.length+T.length=N->G≠[]->bS (ag aH) [.tmp 4] 2 k (.loop [0,1,5,6] Sn) [(0,.aW 0 0 3 0 N),(1,.func 215 [.ptr 1 0]),(5,.int .i64 A.length),(6,.int .i64 ((A.length+G.length:Nat):Int))] [.arr 3 0 ((A++G++T).map cn),.cells [.int .i64 z]]=R (A++eS z T) (N-(A++eS z T).length):=by
 intro T;induction T with
 |nil =>
  intro A G hl hg;have hlt:(((A.length+G.length:Nat):Int)<((N-0:Nat):Int))=False:=by simp only[eq_iff_iff,iff_false]; simp at hl ⊢; omega
  have hk:eS z []=[]:=rfl;have hgl:N-(A++eS z []).length=G.length:=by rw[hk]; simp at hl ⊢; omega
  rw[hgl,hk,List.append_nil,List.append_nil];rw[aC];simp only[zg,hlt,EN,simprocAttr];exact hx A G _ _ (by simpa using hl) hg
 |cons x T ih =>
  intro A G hl hg;simp only[List.length_cons] at hl;have hlt:(((A.length+G.length:Nat):Int)<((N-0:Nat):Int))=True:=nj;have hnn:((0:Int)<=((A.length+G.length:Nat):Int))=True:=nj
  have hat:(A++G++x::T)[A.length+G.length]?=some x:=by
   rw[List.getElem?_append_right (by simp)]; simp
  have hw:IntKind.i64.wrap (((A.length+G.length:Nat):Int)+1)=((A.length+G.length+1:Nat):Int):=by rw[cL (by omega) (by omega)]; omega
  have hw1:IntKind.i64.wrap ((A.length:Int)+1)=((A.length+1:Nat):Int):=by rw[cL (by omega) (by omega)]; omega
  have q59:=fun e a b M=>aen e z 1 (a :: .cells [.int .i64 z]::b::M) rfl
  obtain⟨g,G',hG⟩:=List.exists_cons_of_ne_nil hg;have hga:(A++G++x::T)[A.length]?=some g:=by rw[hG]; simp
  have hset:(A++G++x::T).set A.length x=(A++[x])++(G'++[x])++T:=by rw[hG]; simp
  have hlt2:((A.length:Int)<((N-0:Nat):Int))=True:=nj;have h1:=ih (A++[x]) (G'++[x]) (by rw[hG] at hl; simp at hl ⊢; omega) (by simp)
  have h2:=ih A (G++[x]) (by simp; omega) (by simp)
  have hl1:(((A++[x]).length+(G'++[x]).length:Nat):Int)=((A.length+G.length+1:Nat):Int):=by rw[hG]; simp; omega
  have hl2:((A.length+(G++[x]).length:Nat):Int)=((A.length+G.length+1:Nat):Int):=by simp; omega
  have hl3:((A++[x]).length:Int)=((A.length+1:Nat):Int):=by simp
  have e2:A++(G++[x])++T=A++G++x::T:=by simp
  have e1:A++[x]++eS z T=A++x::eS z T:=by simp
  rw[hl1,hl3,e1] at h1;rw[hl2,e2] at h2;simp only[List.length_append,List.length_cons] at h1 h2;have hput:=P6 (A++G++x::T) A.length g x hga;rw[hset] at hput;rw[re];rw[aC];simp only[zg,hlt,hnn,hat,Z3,ZX,IL,q59,EN,simprocAttr];refine aB (fun hb=>?_) (fun hb=>?_)
  ·have hb':decide (x.af<z)=false:=by simpa using hb
   simp only[zg,hb',hlt2,hga,hput,Z3,ZX,Zp,hw,hw1,Bool.false_eq_true,EN,simprocAttr];exact h1
  ·have hb':decide (x.af<z)=true:=by simpa using hb
   simp only[zg,hb',hw,EN,simprocAttr];exact h2
def CL:ct:=⟨[],0,0⟩
def yh(z:Int):∀(l:List ct)(i:Nat),tL z l i = -1->eS z l=l
 | [],_,_=>rfl
 |x::l,i,h=>by
  rw[tL] at h;split at h
  ·omega
  ·rename_i hx;rw[re,if_neg hx,yh z l _ h]
def yi(z:Int):∀(l:List ct)(i:Nat),tL z l i ≠ -1->∃A x T,l=A++x::T/\tL z l i=((i+A.length:Nat):Int)/\eS z l=A++eS z T
 | [],_,h=>absurd rfl h
 |x::l,i,h=>by
  rw[tL] at h ⊢;rw[re];split
  ·rename_i hx; exact⟨[],x,l,rfl,rfl,rfl⟩
  ·rename_i hx;rw[if_neg hx] at h;obtain⟨A,y,T,h1,h2,h3⟩:=yi z l (i+1) h;exact⟨x::A,y,T,by rw[h1]; rfl,by rw[h2]; simp; omega,by rw[h3]; rfl⟩
def z6(m:Nat):ae:=if m=0 then .slice .sh [] else .aW 0 0 3 0 m
def GB(A G:List ct):((A++G).map cn).take A.length++(List.replicate G.length (ae.agg [.str [],.int .i64 0,.int .i64 0])++((A++G).map cn).drop (A++G).length)=(A++List.replicate G.length CL).map cn:=by
 have h1:((A++G).map cn).take A.length=A.map cn:=by simp[List.take_append_of_le_length]
 have h2:((A++G).map cn).drop (A++G).length=[]:=by rw[List.drop_eq_nil_iff]; simp
 rw[h1,h2];simp[List.map_replicate];exact .inr rfl
def acN(xs:List ct)(z:Int)(hn:xs.length<=100000)(h0:xs≠[]):ag aH 213 [.aW 0 0 3 0 xs.length,.func 215 [.ptr 1 0]] [.arr 3 0 (xs.map cn),.cells [.int .i64 z]] =
  some (z6 (eS z xs).length,[.arr 3 0 ((eS z xs++List.replicate (xs.length-(eS z xs).length) CL).map cn),.cells [.int .i64 z]]):=by
 have q89:=alo xs z hn;refine ai ?_
 by_cases hi:tL z xs 0 = -1
 ·have hk:=yh z xs 0 hi;have hb:(tL z xs 0 == -1)=true:=by simpa using hi
  have hl:xs.length≠0:=fun hh=>h0 (List.length_eq_zero_iff.1 hh)
  rw[hk];simp only[Bq,zg,q89,hb,EN,simprocAttr];simp[z6,hl]
 ·obtain⟨A,x,T,h1,h2,h3⟩:=yi z xs 0 hi;have hb:(tL z xs 0 == -1)=false:=by simpa using hi
  simp only[Nat.zero_add] at h2;have hlen:xs.length=A.length+(T.length+1):=by rw[h1]; simp
  have hw:IntKind.i64.wrap ((A.length:Int)+1)=((A.length+[x].length:Nat):Int):=by rw[cL (by omega) (by omega)]; simp
  have hlp:=fun k R hx=>S6 (z:=z) hn (k:=k) (R:=R) hx T A [x] (by simp; omega) (by simp)
  have e1:A++[x]++T=xs:=by rw[h1]; simp
  rw[e1] at hlp;rw[h2] at hb q89;rw[h3];simp only[Bq,zg,q89,hb,hw,EN,simprocAttr];refine(hlp _ (fun A' g=>some (z6 A'.length,[.arr 3 0 ((A'++List.replicate g CL).map cn),.cells [.int .i64 z]])) (fun A' G v q hl hg=>?_)).trans (by simp only[List.length_append])
  have hgl:G.length≠0:=fun hh=>hg (List.length_eq_zero_iff.1 hh)
  have b1:(((A'.length:Nat):Int)<=(xs.length:Int))=True:=nj;have b2:(((A'.length:Nat):Int)==(xs.length:Int))=false:=by simp; omega
  have hcl:=GB A' G;have hN:(A'++G).length=xs.length:=by simp; omega
  have hd:xs.length-A'.length=G.length:=by omega
  rw[hN] at hcl;have hz0:Int.toNat ((0:Nat):Int)=0:=rfl;have hb0:((0:Int)<=((A'.length:Nat):Int))=True:=by simp
  by_cases hA:A'.length=0
  ·have b3:((0:Int)==((A'.length:Nat):Int))=true:=by simp[hA]
   simp only[zg,bX,Nat.sub_zero,Int.le_refl,b1,b2,hd,hcl,b3,hz0,hb0,EN,simprocAttr];simp[z6,hA]
  ·have b3:((0:Int)==((A'.length:Nat):Int))=false:=by simp; omega
   simp only[zg,bX,Nat.sub_zero,Int.le_refl,b1,b2,hd,hcl,b3,hz0,hb0,EN,simprocAttr];simp[z6,hA]
end
structure bI where
 aV:Int
 handle:Int
 ino:Int
 deriving DecidableEq,Inhabited
structure ba where
 ino:Int
 nodes:Int
 bytes:Int
 deriving DecidableEq,Inhabited
structure iy where
 dZ:Int
 xH:Int
 node:Node
 deriving DecidableEq,Inhabited
structure eX where
 id:Int
 ino:Int
 at':Int
 deriving DecidableEq,Inhabited
structure c8 where
 now:Tree
 tick:Int
 since:List Int
 bq:List iy
 taken:List eX
 next:Int
 deriving DecidableEq,Inhabited
structure aa where
 s:c8
 holds:List bI
 bt:List ba
 deriving DecidableEq,Inhabited
structure dG where
 kind:Int
 aV:Int
 path:Bytes
 lU:Bytes
 n:Int
 m:Int
 handle:Int
 data:Bytes
 deriving DecidableEq,Inhabited
structure Ib where
 err:Int
 ino:Int
 kind:Int
 n:Int
 m:Int
 names:List Bytes
 data:Bytes
 deriving DecidableEq,Inhabited
structure C1 where
 aV:Int
 seq:Int
 ans:Ib
 deriving DecidableEq,Inhabited
def df(h:bI):List ae:=[.int .i64 h.aV,.int .i64 h.handle,.int .i64 h.ino]
def cF(h:bI):ae := .agg (df h)
abbrev cj(l:List bI):ae := .slice .sh (l.map cF)
def cZ(q:ba):List ae:=[.int .i64 q.ino,.int .i64 q.nodes,.int .i64 q.bytes]
def bz(q:ba):ae := .agg (cZ q)
abbrev a8(l:List ba):ae := .slice .sh (l.map bz)
def fT(p:iy):List ae := .int .i64 p.dZ :: .int .i64 p.xH::an p.node
def eR(p:iy):ae := .agg (fT p)
abbrev nJ(l:List iy):ae := .slice .sh (l.map eR)
def cS(s:eX):List ae:=[.int .i64 s.id,.int .i64 s.ino,.int .i64 s.at']
def eA(s:eX):ae := .agg (cS s)
abbrev eN(l:List eX):ae := .slice .sh (l.map eA)
abbrev oL(l:List Int):ae := .slice .sh (l.map fF)
abbrev bg(l:List Bytes):ae := .slice .sh (l.map ae.str)
def aE(s:c8):List ae:=[au s.now.nodes,.int .i64 s.now.next,.int .i64 s.now.af,.int .i64 s.tick,oL s.since,nJ s.bq,eN s.taken,.int .i64 s.next]
def iL(s:c8):ae := .agg (aE s)
def aR(f:aa):List ae:=[au f.s.now.nodes,.int .i64 f.s.now.next,.int .i64 f.s.now.af,.int .i64 f.s.tick,oL f.s.since,nJ f.s.bq,eN f.s.taken,.int .i64 f.s.next,cj f.holds,a8 f.bt]
def bB(o:dG):List ae:=[.int .i64 o.kind,.int .i64 o.aV,.str o.path,.str o.lU,.int .i64 o.n,.int .i64 o.m,.int .i64 o.handle,bc o.data]
def CN(o:dG):ae := .agg (bB o)
def bj(a:Ib):List ae:=[.int .i64 a.err,.int .i64 a.ino,.int .i64 a.kind,.int .i64 a.n,.int .i64 a.m,bg a.names,bc a.data]
def qX(s:C1):List ae := .int .i64 s.aV :: .int .i64 s.seq::bj s.ans
def Je(s:C1):ae := .agg (qX s)
def AN(n:bI):(cF n).cells=df n:=rfl
def zm(n:ba):(bz n).cells=cZ n:=rfl
def AP(n:iy):(eR n).cells=fT n:=rfl
def AR(n:eX):(eA n).cells=cS n:=rfl
def AQ(n:C1):(Je n).cells=qX n:=rfl
def D0(n:bI):(df n).length=3:=rfl
def B1(n:ba):(cZ n).length=3:=rfl
def D2(n:iy):(fT n).length=8:=rfl
def D4(n:eX):(cS n).length=3:=rfl
def D3(n:C1):(qX n).length=9:=rfl
def kQ{α:Type}(f:α->ae)(k:Nat)(h:∀a,(f a).cells.length=k)(l:List α):wid (l.map f) k=True:=by
 simp only[eq_iff_iff,iff_true];intro x hx;obtain⟨n,_,rfl⟩:=List.mem_map.1 hx;exact h n
def H7(l:List bI):wid (l.map cF) 3=True:=kQ cF _ (fun _=>rfl) l
def Ew(l:List ba):wid (l.map bz) 3=True:=kQ bz _ (fun _=>rfl) l
def H8(l:List iy):wid (l.map eR) 8=True:=kQ eR _ (fun _=>rfl) l
def Ia(l:List eX):wid (l.map eA) 3=True:=kQ eA _ (fun _=>rfl) l
def H9(l:List C1):wid (l.map Je) 9=True:=kQ Je _ (fun _=>rfl) l
def Qq(l:List Bytes):wid (l.map ae.str) 1=True:=kQ ae.str _ (fun _=>rfl) l
def tkH(n:bI):List.take 3 (df n)=df n:=rfl
def shH(n:bI):List.map ae.shut (df n)=df n:=rfl
def tkQ(n:ba):List.take 3 (cZ n)=cZ n:=rfl
def shQ(n:ba):List.map ae.shut (cZ n)=cZ n:=rfl
def tkP(n:iy):List.take 8 (fT n)=fT n:=rfl
def shP(n:iy):List.map ae.shut (fT n)=fT n:=rfl
def tkS(n:eX):List.take 3 (cS n)=cS n:=rfl
def shS(n:eX):List.map ae.shut (cS n)=cS n:=rfl
def tkU(n:C1):List.take 9 (qX n)=qX n:=rfl
def shU(n:C1):List.map ae.shut (qX n)=qX n:=rfl
def acX:((2:Nat):Int)=2:=rfl
def Z4:Int.toNat 0=0:=rfl
def Z5:Int.toNat 1=1:=rfl
def akU(a b c d:Int):eB [FK.i,FK.i] [.int .i64 a,.int .i64 b] [.int .i64 c,.int .i64 d]=some (a==c&&b==d):=by
 simp[eB,fx]
def Rl(a b c a' b' c':Int):eB [FK.i,FK.i,FK.i] [.int .i64 a,.int .i64 b,.int .i64 c] [.int .i64 a',.int .i64 b',.int .i64 c']=some (a==a'&&(b==b'&&c==c')):=by
 simp[eB,fx]
set_option linter.defProp false in
def EVF:=And.intro @akU (And.intro @Rl (And.intro @List.getElem?_cons_zero.{0} (And.intro @List.getElem?_cons_succ.{0} (And.intro @acX (And.intro @Z4 (And.intro @Z5 (And.intro @Nat.zero_mul (And.intro @Nat.one_mul (And.intro @AN (And.intro @zm (And.intro @AP (And.intro @AR (And.intro @AQ (And.intro @D0 (And.intro @B1 (And.intro @D2 (And.intro @D4 (And.intro @D3 (And.intro @H7 (And.intro @Ew (And.intro @H8 (And.intro @Ia (And.intro @H9 (And.intro @Qq (And.intro @tkH (And.intro @shH (And.intro @tkQ (And.intro @shQ (And.intro @tkP (And.intro @shP (And.intro @tkS (And.intro @shS (And.intro @tkU (And.intro @shU (And.intro @tkN (And.intro @shN (And.intro @Z3 (@ZX))))))))))))))))))))))))))))))))))))))
set_option linter.defProp false in
def EW:=And.intro EVF EN
section
attribute [local irreducible] bS cz fu gK bG kr ag ar aQ aG
def c87(h:bI):ag aH 87 [cF h] []=some (.agg [.int .i64 h.aV,.int .i64 h.handle],[]):=by
 refine ai ?_;simp only[WU,E87,cF,df,EW,simprocAttr]
def k87(h:bI)(M:aj):ar (ag aH) 87 [.agg (df h)] M=some (.agg [.int .i64 h.aV,.int .i64 h.handle],M):=cO (c87 h) M
def gM(n:Node):Bool:=n.kind==1&&n.bE==0
def ajy(n:Node):ag aH 163 [aF n] []=some (.bool (gM n),[]):=by
 refine ai ?_;simp only[J0,aax,aF,an,EW,simprocAttr]
 repeat' ((first|refine aB (fun hb=>?_) (fun hb=>?_)|refine aJ (fun hb=>?_) (fun hb=>?_)|refine bp (fun hb=>?_) (fun hb=>?_))<;>simp only[hb,EW,aax,simprocAttr])
 all_goals (simp_all only[gM,iw,↓reduceIte,reduceCtorEq,bne_self_eq_false]; done)
def Xg(n:Node)(M:aj):ar (ag aH) 163 [.agg (an n)] M=some (.bool (gM n),M):=cO (ajy n) M
def BR(c h:Int):Bool:=decide (0<=c)&&decide (c<16)&&decide (0<=h)&&decide (h<100)
def c88(c h:Int):ag aH 88 [.agg [.int .i64 c,.int .i64 h]] []=some (.bool (BR c h),[]):=by
 refine ai ?_;simp only[WV,E88,EW,simprocAttr]
 repeat' ((first|refine aB (fun hb=>?_) (fun hb=>?_)|refine aJ (fun hb=>?_) (fun hb=>?_)|refine bp (fun hb=>?_) (fun hb=>?_))<;>simp only[hb,EW,E88,simprocAttr])
 all_goals (simp_all only[BR,iw,↓reduceIte,reduceCtorEq,bne_self_eq_false]; done)
def k88 c h:=cP (c88 c h)
def Zf(a b:Int):Int:=if (a != 0)=true then a else b
def anR(a b:Int)(ha:(a != 0)=false):Zf a b=b:=by simp[Zf,ha]
def ajs(a b:Int):ag aH 153 [.slice .sh [.int .i64 a,.int .i64 b]] []=some (.int .i64 (Zf a b),[]):=by
 refine ai ?_;simp only[Fb,Aj,EW,simprocAttr];rw[aC];simp only[Fb,Aj,EW,simprocAttr];refine aB (fun hb=>?_) (fun hb=>?_)
 ·simp only[Aj,hb,Zf,EW,simprocAttr]
 ·have w1:IntKind.i64.wrap 1=1:=cL (by decide) (by decide)
  have w2:IntKind.i64.wrap 2=2:=cL (by decide) (by decide)
  simp only[Aj,hb,anR a b hb,w1,EW,simprocAttr];rw[aC];simp only[Aj,EW,simprocAttr];refine aB (fun hc=>?_) (fun hc=>?_)
  ·simp only[Aj,hc,EW,simprocAttr]
  ·simp only[Aj,hc,w2,EW,simprocAttr];rw[aC];simp only[Aj,EW,simprocAttr];have:b=0:=by simpa using hc
   rw[this]
def alr a b:=cP (ajs a b)
def cM(x:bI)(c h:Int):Int:=Zf (jf x.aV c) (jf x.handle h)
def c89(c h a b:Int)(x:bI):ag aH 89 [.agg [.int .i64 c,.int .i64 h],cF x,.agg [.int .i64 a,.int .i64 b]] []=some (.int .i64 (cM x c h),[]):=by
 refine ai ?_;simp only[WW,E89,cF,k87,RI,alr,cM,EW,simprocAttr]
def k89(c h a b:Int)(x:bI)(M:aj):ar (ag aH) 89 [.agg [.int .i64 c,.int .i64 h],.agg (df x),.agg [.int .i64 a,.int .i64 b]] M=some (.int .i64 (cM x c h),M):=cO (c89 c h a b x) M
def dP(c h:Int)(x:bI):Bool:=x.aV==c&&x.handle==h
def akg(c h:Int)(x:bI):ag aH 222 [.agg [.int .i64 c,.int .i64 h],cF x] []=some (.bool (dP c h x),[]):=by
 refine ai ?_;simp only[KH,aif,cF,k87,dP,EW,simprocAttr]
def alD(c h:Int)(x:bI)(M:aj):ar (ag aH) 222 [.agg [.int .i64 c,.int .i64 h],.agg (df x)] M=some (.bool (dP c h x),M):=cO (akg c h x) M
end
section
def jI{α:Type}(p:α->Bool):List α->Nat->Int
 | [],_ => -1
 |x::r,i=>if p x=true then (i:Int) else jI p r (i+1)
def yj{α:Type}(p:α->Bool):∀(l:List α)(i:Nat),decide (0<=jI p l i)=l.any p
 | [],_=>rfl
 |x::r,i=>by
  rw[jI,List.any_cons]
  by_cases h:p x=true
  ·simp[h]
  ·simp only[h,Bool.false_eq_true,if_false,Bool.false_or];exact yj p r (i+1)
def wz{α:Type}(p:α->Bool)(l:List α):decide (0<=jI p l 0)=l.any p:=yj p l 0
def pF{α:Type}(p:α->Bool):∀(l:List α)(i:Nat),(jI p l i = -1/\l.find? p=none)\/∃(m:Nat) (x:α),jI p l i=((i+m:Nat):Int)/\l[m]?=some x/\l.find? p=some x/\l.eraseIdx m=l.eraseP p
 | [],i => .inl ⟨rfl,rfl⟩
 |x::r,i=>by
  rw[jI]
  by_cases h:p x=true
  ·exact .inr ⟨0,x,by simp[h],rfl,by simp[h],by simp[h]⟩
  ·rcases pF p r (i+1) with ⟨h1,h2⟩|⟨m,y,h1,h2,h3,h4⟩
   ·exact .inl ⟨by simp[h,h1],by simp[h,h2]⟩
   ·exact .inr ⟨m+1,y,by simp only[h,Bool.false_eq_true,if_false,h1]; simp; omega,by simpa using h2,by simp[h,h3],by simp[h,h4]⟩
structure IC{α:Type}(lt:α->Bool)(l:List α)(b:Nat):Prop where
 le:b<=l.length
 lt:∀h n,l[h]?=some n->(lt n=true↔h<b)
def fm{α:Type}(lt:α->Bool)(l:List α):Nat:=(l.takeWhile lt).length
def zN{α:Type}{lt:α->Bool}:∀ {l:List α},l.Pairwise (fun a b=>lt b=true->lt a=true)->IC lt l (fm lt l)
 | [],_=>⟨Nat.le_refl _,fun h n hn=>by simp at hn⟩
 |a::r,h=>by
  obtain⟨h1,h2⟩:=List.pairwise_cons.1 h;obtain⟨i1,i2⟩:=zN h2;unfold fm at i1 i2 ⊢
  by_cases ha:lt a=true
  ·rw[List.takeWhile_cons,if_pos ha];refine⟨by simpa using i1,fun k n hn=>?_⟩
   cases k with
   |zero=>simp at hn; subst hn; simp[ha]
   |succ k=>rw[i2 k n (by simpa using hn)]; simp
  ·rw[List.takeWhile_cons,if_neg ha];refine⟨by simp,fun k n hn=>?_⟩
   simp only[List.length_nil,Nat.not_lt_zero,iff_false];cases k with
   |zero=>simp at hn; subst hn; exact ha
   |succ k=>exact fun hc=>ha (h1 n (List.mem_of_getElem? (by simpa using hn)) hc)
def j4{α:Type}(eq:α->Bool)(l:List α)(b:Nat):Bool:=match l[b]? with
 |some n=>eq n
 |none=>false
def pz{C:bL}{f p:Nat}{vs:List ae}{r:ae}{M:aj}{cs:List ae}(hM:nth M p=some (.cells cs))(h:C f (vs++[.ptr 0 0]) [.cells cs]=some (r,[.cells cs]))(h1:vs.all ae.flat=true)(h2:vs.flatMap ae.ids=[])(h3:r.oN=true)
  (h4:vs.map (ae.iE (da [p]))=vs) (h5:r.vm (px [p])=r) (h6:cs.all ae.n9=true) (h7:cs.flatMap ae.fP=[]) (h8:cs.map (ae.kK (da [p]))=cs) (h10:cs.map (ae.kK (px [p]))=cs) :
  ar C f (vs++[.ptr p 0]) M=some (r,M):=by
 have hids:(vs++[ae.ptr p 0]).flatMap ae.ids=[p]:=by simp[ae.ids,ae.fP,ae.cX,h2]
 have hi:iU M [p]=[]:=by simp[iU,hM,aM.ids,h7]
 have e0:eG M [p]=[p]:=by simp[eG,hi,ef]
 have e1:reach M [p]=[p]:=by
  have ea:ef [] [p]=[p]:=rfl;simp only[reach,ea,e0]
 have hfl:(vs++[ae.ptr p 0]).all ae.flat=true:=by rw[List.all_append,h1]; rfl
 unfold ar;rw[if_pos hfl,hids,e1];have hpk:dK M (da [p]) [p]=some [.cells cs]:=by simp[dK,hM,aM.flat,h6,aM.iE,h8]
 rw[hpk];simp only[aI];rw[if_pos e0]
 have hrn:(vs++[ae.ptr p 0]).map (ae.iE (da [p]))=vs++[.ptr 0 0]:=by
  rw[List.map_append,h4];simp[ae.iE,ae.kK,ae.kJ,da]
 rw[hrn,h];simp only[aI];rw[if_pos ⟨by trivial,h3,by simp[aM.flat,h6]⟩,h5]
 simp only[eW,aM.iE,h10];rw[gN hM]
def Pt(z:Int):dK [.cells [.int .i64 z]] (da [0]) [0]=some [.cells [.int .i64 z]]:=rfl
def Ek(u v:Int):dK [.cells [.int .i64 u],.cells [.int .i64 v]] (da [0,1]) [0,1]=some [.cells [.int .i64 u],.cells [.int .i64 v]]:=rfl
attribute [local irreducible] bS cz fu gK bG kr ag ar aQ aG
def ajz(x:bI)(z:Int):ag aH 165 [cF x,.ptr 0 0] [.cells [.int .i64 z]]=some (.bool (x.ino==z),[.cells [.int .i64 z]]):=by
 refine ai ?_;simp only[J1,ah3,cF,df,EW,simprocAttr]
def aj1(x:bI)(z:Int):ag aH 199 [cF x,.ptr 0 0] [.cells [.int .i64 z]]=some (.bool (x.ino==z),[.cells [.int .i64 z]]):=by
 refine ai ?_;simp only[Kt,ah9,cF,df,EW,simprocAttr]
def aks(q:ba)(ino:Int):ag aH 245 [bz q,.int .i64 ino] []=some (.int .i64 (jf q.ino ino),[]):=by
 refine ai ?_;simp only[KW,aim,bz,cZ,RI,EW,simprocAttr]
def aep(n:ba)(ino:Int)(M:aj):ar (ag aH) 245 [.agg (cZ n),.int .i64 ino] M=some (.int .i64 (jf n.ino ino),M):=cO (aks n ino) M
def ajw(n:Node)(ino:Int):ag aH 161 [aF n,.int .i64 ino] []=some (.int .i64 (jf n.ino ino),[]):=by
 refine ai ?_;simp only[JY,ah2,aF,an,RI,EW,simprocAttr]
def ad4(n:Node)(ino:Int)(M:aj):ar (ag aH) 161 [.agg (an n),.int .i64 ino] M=some (.int .i64 (jf n.ino ino),M):=cO (ajw n ino) M
def mL(dZ xH:Int)(x:eX):Bool:=decide (dZ<=x.at')&&decide (x.at'<xH)
def ako(x:eX)(a b:Int):ag aH 238 [eA x,.ptr 0 0,.ptr 1 0] [.cells [.int .i64 a],.cells [.int .i64 b]]=some (.bool (mL a b x),[.cells [.int .i64 a],.cells [.int .i64 b]]):=by
 refine ai ?_;simp only[KS,aaF,eA,cS,EW,simprocAttr]
 repeat' ((first|refine aB (fun hb=>?_) (fun hb=>?_)|refine aJ (fun hb=>?_) (fun hb=>?_)|refine bp (fun hb=>?_) (fun hb=>?_))<;>simp only[hb,EW,aaF,simprocAttr])
 all_goals (simp_all only[mL,iw,↓reduceIte,reduceCtorEq,bne_self_eq_false]; done)
def OH{xs:List bI}{c g:Int}(hn:xs.length<=100000){k:List K}{R:Int->Option (ae×aj)}
  (hx:∀e,kr (ag aH) [.tmp 4] 0 k ⟨.exit 0,e,[]⟩=R (-1)) (hr:∀(i:Nat),kr (ag aH) [.tmp 4] 0 k ⟨.ret,[(4,.int .i64 i)],[]⟩=R i) :
  ∀(l pre:List bI),xs=pre++l->bS (ag aH) [.tmp 4] 0 k (.loop [0,1,7,8] zK) [(0,.slice .sh (xs.map cF)),(1,.iM 222 [.agg [.int .i64 c,.int .i64 g]]),(7,.int .i64 xs.length),(8,.int .i64 pre.length)] []=R (jI (dP c g) l pre.length):=by
 intro l;induction l with
 |nil =>
  intro pre h;rw[aC];simp only[mr,cQ h,EW,simprocAttr];exact hx _
 |cons n rest ih =>
  intro pre h;rw[aC];have hlen:pre.length+1<=100000:=by rw[h] at hn; simp at hn; omega
  have hw:=ny pre n;have hi:=ih (pre++[n]) (by rw[h]; simp)
  simp only[List.length_append,List.length_cons,List.length_nil] at hi;have hk:∀x:bI,ar (ag aH) 222 [.agg [.int .i64 c,.int .i64 g],.agg (df x)] []=some (.bool ((dP c g) x),[]):=fun x=>alD c g x []
  rw[jI];simp only[mr,cv h,bT h,hk,EW,simprocAttr];refine aB (fun hb=>?_) (fun hb=>?_)
  ·simp only[mr,hb,EW,simprocAttr];exact hr _
  ·simp only[mr,hb,hw,Bool.false_eq_true,EW,simprocAttr];exact hi
def acR(xs:List bI)(c g:Int)(hn:xs.length<=100000):ag aH 221 [.slice .sh (xs.map cF),.iM 222 [.agg [.int .i64 c,.int .i64 g]]] []=some (.int .i64 (jI (dP c g) xs 0),[]):=by
 refine ai ?_;simp only[Br,mr,EW,simprocAttr];exact OH (R:=fun i=>some (.int .i64 i,[])) hn (fun e=>by simp only[mr,EW,simprocAttr]) (fun i=>by simp only[mr,EW,simprocAttr]) xs [] rfl
def UW(xs:List bI)(c g:Int)(hn:xs.length<=100000)(M:aj):ar (ag aH) 221 [.slice .sh (xs.map cF),.iM 222 [.agg [.int .i64 c,.int .i64 g]]] M=some (.int .i64 (jI (dP c g) xs 0),M):=cO (acR xs c g hn) M
def OE{xs:List bI}{z:Int}(hn:xs.length<=100000){k:List K}{R:Int->Option (ae×aj)}
  (hx:∀e,kr (ag aH) [.tmp 4] 1 k ⟨.exit 0,e,[aM.cells [.int .i64 z]]⟩=R (-1)) (hr:∀(i:Nat),kr (ag aH) [.tmp 4] 1 k ⟨.ret,[(4,.int .i64 i)],[aM.cells [.int .i64 z]]⟩=R i) :
  ∀(l pre:List bI),xs=pre++l->bS (ag aH) [.tmp 4] 1 k (.loop [0,1,7,8] zK) [(0,.slice .sh (xs.map cF)),(1,.func 165 [.ptr 0 0]),(7,.int .i64 xs.length),(8,.int .i64 pre.length)] [aM.cells [.int .i64 z]]=R (jI (fun x:bI=>x.ino==z) l pre.length):=by
 intro l;induction l with
 |nil =>
  intro pre h;rw[aC];simp only[mr,cQ h,EW,simprocAttr];exact hx _
 |cons n rest ih =>
  intro pre h;rw[aC];have hlen:pre.length+1<=100000:=by rw[h] at hn; simp at hn; omega
  have hw:=ny pre n;have hi:=ih (pre++[n]) (by rw[h]; simp)
  simp only[List.length_append,List.length_cons,List.length_nil] at hi;have hk:∀x:bI,ar (ag aH) 165 [.agg (df x),.ptr 0 0] [aM.cells [.int .i64 z]]=some (.bool ((fun x:bI=>x.ino==z) x),[aM.cells [.int .i64 z]]):=fun x=>pz (f:=165) (p:=0) (vs:=[.agg (df x)]) (M:=[aM.cells [.int .i64 z]]) rfl (ajz x z) rfl rfl rfl rfl rfl rfl rfl rfl rfl
  rw[jI];simp only[mr,cv h,bT h,hk,EW,simprocAttr];refine aB (fun hb=>?_) (fun hb=>?_)
  ·simp only[mr,hb,EW,simprocAttr];exact hr _
  ·simp only[mr,hb,hw,Bool.false_eq_true,EW,simprocAttr];exact hi
def acP(xs:List bI)(z:Int)(hn:xs.length<=100000):ag aH 221 [.slice .sh (xs.map cF),.func 165 [.ptr 0 0]] [aM.cells [.int .i64 z]]=some (.int .i64 (jI (fun x:bI=>x.ino==z) xs 0),[aM.cells [.int .i64 z]]):=by
 refine ai ?_;simp only[Br,mr,EW,simprocAttr];exact OE (R:=fun i=>some (.int .i64 i,[aM.cells [.int .i64 z]])) hn (fun e=>by simp only[mr,EW,simprocAttr]) (fun i=>by simp only[mr,EW,simprocAttr]) xs [] rfl
def acH(xs:List bI)(z:Int)(hn:xs.length<=100000):ag aH 164 [.slice .sh (xs.map cF),.func 165 [.ptr 0 0]] [aM.cells [.int .i64 z]]=some (.bool (xs.any (fun x:bI=>x.ino==z)),[aM.cells [.int .i64 z]]):=by
 refine ai ?_;have hk:ar (ag aH) 221 [.slice .sh (xs.map cF),.func 165 [.ptr 0 0]] [aM.cells [.int .i64 z]]=some (.int .i64 (jI (fun x:bI=>x.ino==z) xs 0),[aM.cells [.int .i64 z]]):=eE (ids:=[0]) rfl rfl (Pt z) rfl rfl (acP xs z hn) rfl rfl rfl rfl rfl
 simp only[Fe,aay,hk,wz,EW,simprocAttr]
def OG{xs:List bI}{z:Int}(hn:xs.length<=100000){k:List K}{R:Int->Option (ae×aj)}
  (hx:∀e,kr (ag aH) [.tmp 4] 1 k ⟨.exit 0,e,[aM.cells [.int .i64 z]]⟩=R (-1)) (hr:∀(i:Nat),kr (ag aH) [.tmp 4] 1 k ⟨.ret,[(4,.int .i64 i)],[aM.cells [.int .i64 z]]⟩=R i) :
  ∀(l pre:List bI),xs=pre++l->bS (ag aH) [.tmp 4] 1 k (.loop [0,1,7,8] zK) [(0,.slice .sh (xs.map cF)),(1,.func 199 [.ptr 0 0]),(7,.int .i64 xs.length),(8,.int .i64 pre.length)] [aM.cells [.int .i64 z]]=R (jI (fun x:bI=>x.ino==z) l pre.length):=by
 intro l;induction l with
 |nil =>
  intro pre h;rw[aC];simp only[mr,cQ h,EW,simprocAttr];exact hx _
 |cons n rest ih =>
  intro pre h;rw[aC];have hlen:pre.length+1<=100000:=by rw[h] at hn; simp at hn; omega
  have hw:=ny pre n;have hi:=ih (pre++[n]) (by rw[h]; simp)
  simp only[List.length_append,List.length_cons,List.length_nil] at hi;have hk:∀x:bI,ar (ag aH) 199 [.agg (df x),.ptr 0 0] [aM.cells [.int .i64 z]]=some (.bool ((fun x:bI=>x.ino==z) x),[aM.cells [.int .i64 z]]):=fun x=>pz (f:=199) (p:=0) (vs:=[.agg (df x)]) (M:=[aM.cells [.int .i64 z]]) rfl (aj1 x z) rfl rfl rfl rfl rfl rfl rfl rfl rfl
  rw[jI];simp only[mr,cv h,bT h,hk,EW,simprocAttr];refine aB (fun hb=>?_) (fun hb=>?_)
  ·simp only[mr,hb,EW,simprocAttr];exact hr _
  ·simp only[mr,hb,hw,Bool.false_eq_true,EW,simprocAttr];exact hi
def acQ(xs:List bI)(z:Int)(hn:xs.length<=100000):ag aH 221 [.slice .sh (xs.map cF),.func 199 [.ptr 0 0]] [aM.cells [.int .i64 z]]=some (.int .i64 (jI (fun x:bI=>x.ino==z) xs 0),[aM.cells [.int .i64 z]]):=by
 refine ai ?_;simp only[Br,mr,EW,simprocAttr];exact OG (R:=fun i=>some (.int .i64 i,[aM.cells [.int .i64 z]])) hn (fun e=>by simp only[mr,EW,simprocAttr]) (fun i=>by simp only[mr,EW,simprocAttr]) xs [] rfl
def acI(xs:List bI)(z:Int)(hn:xs.length<=100000):ag aH 164 [.slice .sh (xs.map cF),.func 199 [.ptr 0 0]] [aM.cells [.int .i64 z]]=some (.bool (xs.any (fun x:bI=>x.ino==z)),[aM.cells [.int .i64 z]]):=by
 refine ai ?_;have hk:ar (ag aH) 221 [.slice .sh (xs.map cF),.func 199 [.ptr 0 0]] [aM.cells [.int .i64 z]]=some (.int .i64 (jI (fun x:bI=>x.ino==z) xs 0),[aM.cells [.int .i64 z]]):=eE (ids:=[0]) rfl rfl (Pt z) rfl rfl (acQ xs z hn) rfl rfl rfl rfl rfl
 simp only[Fe,aay,hk,wz,EW,simprocAttr]
def OO{xs:List eX}{u v:Int}(hn:xs.length<=100000){k:List K}{R:Int->Option (ae×aj)}
  (hx:∀e,kr (ag aH) [.tmp 4] 2 k ⟨.exit 0,e,[aM.cells [.int .i64 u],aM.cells [.int .i64 v]]⟩=R (-1)) (hr:∀(i:Nat),kr (ag aH) [.tmp 4] 2 k ⟨.ret,[(4,.int .i64 i)],[aM.cells [.int .i64 u],aM.cells [.int .i64 v]]⟩=R i) :
  ∀(l pre:List eX),xs=pre++l->bS (ag aH) [.tmp 4] 2 k (.loop [0,1,7,8] SF) [(0,.slice .sh (xs.map eA)),(1,.func 238 [.ptr 0 0,.ptr 1 0]),(7,.int .i64 xs.length),(8,.int .i64 pre.length)] [aM.cells [.int .i64 u],aM.cells [.int .i64 v]]=R (jI (mL u v) l pre.length):=by
 intro l;induction l with
 |nil =>
  intro pre h;rw[aC];simp only[CW,cQ h,EW,simprocAttr];exact hx _
 |cons n rest ih =>
  intro pre h;rw[aC];have hlen:pre.length+1<=100000:=by rw[h] at hn; simp at hn; omega
  have hw:=ny pre n;have hi:=ih (pre++[n]) (by rw[h]; simp)
  simp only[List.length_append,List.length_cons,List.length_nil] at hi;have hk:∀x:eX,ar (ag aH) 238 [.agg (cS x),.ptr 0 0,.ptr 1 0] [aM.cells [.int .i64 u],aM.cells [.int .i64 v]]=some (.bool ((mL u v) x),[aM.cells [.int .i64 u],aM.cells [.int .i64 v]]):=fun x=>eE (ids:=[0,1]) rfl rfl (Ek u v) rfl rfl (ako x u v) rfl rfl rfl rfl rfl
  rw[jI];simp only[CW,cv h,bT h,hk,EW,simprocAttr];refine aB (fun hb=>?_) (fun hb=>?_)
  ·simp only[CW,hb,EW,simprocAttr];exact hr _
  ·simp only[CW,hb,hw,Bool.false_eq_true,EW,simprocAttr];exact hi
def acU(xs:List eX)(u v:Int)(hn:xs.length<=100000):ag aH 275 [.slice .sh (xs.map eA),.func 238 [.ptr 0 0,.ptr 1 0]] [aM.cells [.int .i64 u],aM.cells [.int .i64 v]]=some (.int .i64 (jI (mL u v) xs 0),[aM.cells [.int .i64 u],aM.cells [.int .i64 v]]):=by
 refine ai ?_;simp only[K9,CW,EW,simprocAttr];exact OO (R:=fun i=>some (.int .i64 i,[aM.cells [.int .i64 u],aM.cells [.int .i64 v]])) hn (fun e=>by simp only[CW,EW,simprocAttr]) (fun i=>by simp only[CW,EW,simprocAttr]) xs [] rfl
def acS(xs:List eX)(u v:Int)(hn:xs.length<=100000):ag aH 237 [.slice .sh (xs.map eA),.func 238 [.ptr 0 0,.ptr 1 0]] [aM.cells [.int .i64 u],aM.cells [.int .i64 v]]=some (.bool (xs.any (mL u v)),[aM.cells [.int .i64 u],aM.cells [.int .i64 v]]):=by
 refine ai ?_;have hk:ar (ag aH) 275 [.slice .sh (xs.map eA),.func 238 [.ptr 0 0,.ptr 1 0]] [aM.cells [.int .i64 u],aM.cells [.int .i64 v]]=some (.int .i64 (jI (mL u v) xs 0),[aM.cells [.int .i64 u],aM.cells [.int .i64 v]]):=eE (ids:=[0,1]) rfl rfl (Ek u v) rfl rfl (acU xs u v hn) rfl rfl rfl rfl rfl;simp only[KR,aij,hk,wz,EW,simprocAttr]
def Ta{xs:List ba}{ino:Int}{b:Nat}(hb:IC (fun x=>decide (jf x.ino ino<0)) xs b)(hn:xs.length<=100000){k:List K}{r:Option (ae×aj)}
  (hx:∀v q,kr (ag aH) [.tmp 6,.tmp 7] 0 k ⟨.exit 0,[(0,.slice .sh (xs.map bz)),(1,.int .i64 ino),(2,.func 245 []),(8,.int .i64 xs.length),(9,.int .i64 b),(10,v),(17,q)],[]⟩=r) :
  ∀(f i j:Nat),j-i<=f->i<=b->b<=j->j<=xs.length->bS (ag aH) [.tmp 6,.tmp 7] 0 k (.loop [0,1,2,8,9,10] Su) [(0,.slice .sh (xs.map bz)),(1,.int .i64 ino),(2,.func 245 []),(8,.int .i64 xs.length),(9,.int .i64 i),(10,.int .i64 j)] []=r:=by
 intro f;induction f with
 |zero =>
  intro i j h1 h2 h3 h4;obtain rfl:i=b:=by omega
  rw[aC];have hlt:((i:Int)<(j:Int))=False:=by simp; omega
  simp only[Am,hlt,EW,simprocAttr];exact hx _ _
 |succ f ih =>
  intro i j h1 h2 h3 h4;rw[aC]
  by_cases hij:i<j
  ·have hlt:((i:Int)<(j:Int))=True:=by simp; omega
   obtain⟨m1,m2,m3,m4,m5⟩:=wP i j (by omega) (by omega)
   have hmid:(i+j) / 2<xs.length:=by omega
   have hx:=List.getElem?_eq_getElem hmid;have hl:=hb.lt _ _ hx;have hk:=fun x:ba=>aep x ino []
   simp only[Am,hlt,m1,m2,m3,m4,hx,hk,EW,simprocAttr];refine aB (fun hq=>?_) (fun hq=>?_)
   ·simp only[Am,m5,EW,simprocAttr];exact ih ((i+j) / 2+1) j (by omega) (hl.1 hq) h3 h4
   ·simp only[Am,EW,simprocAttr];exact ih i ((i+j) / 2) (by omega) h2 (Nat.not_lt.1 fun h=>by rw[hl.2 h] at hq; cases hq) (by omega)
  ·obtain rfl:i=b:=by omega
   have hlt:((i:Int)<(j:Int))=False:=by simp; omega
   simp only[Am,hlt,EW,simprocAttr];exact hx _ _
def akr(xs:List ba)(ino:Int)(b:Nat)(hb:IC (fun x=>decide (jf x.ino ino<0)) xs b)(hn:xs.length<=100000):ag aH 244 [.slice .sh (xs.map bz),.int .i64 ino,.func 245 []] []=some (.tuple [.int .i64 b,.bool (j4 (fun x=>jf x.ino ino==0) xs b)],[]):=by
 refine ai ?_;simp only[KV,Am,EW,simprocAttr];refine Ta hb hn (fun v q=>?_) xs.length 0 xs.length (by omega) (by omega) hb.le (by omega)
 have hk:=fun x:ba=>aep x ino []
 unfold j4
 by_cases hlt:b<xs.length
 ·have hx:=List.getElem?_eq_getElem hlt;have h1:((b:Int)<(xs.length:Int))=True:=by simp; omega
  simp only[Am,hx,h1,hk,EW,simprocAttr]
 ·have hx:xs[b]?=none:=List.getElem?_eq_none (by omega)
  have h1:((b:Int)<(xs.length:Int))=False:=by simp; omega
  simp only[Am,hx,h1,EW,simprocAttr]
def Ow{xs:List Node}{ino:Int}{b:Nat}(hb:IC (fun x=>decide (jf x.ino ino<0)) xs b)(hn:xs.length<=100000){k:List K}{r:Option (ae×aj)}
  (hx:∀v q,kr (ag aH) [.tmp 6,.tmp 7] 0 k ⟨.exit 0,[(0,.slice .sh (xs.map aF)),(1,.int .i64 ino),(2,.func 161 []),(8,.int .i64 xs.length),(9,.int .i64 b),(10,v),(17,q)],[]⟩=r) :
  ∀(f i j:Nat),j-i<=f->i<=b->b<=j->j<=xs.length->bS (ag aH) [.tmp 6,.tmp 7] 0 k (.loop [0,1,2,8,9,10] FC) [(0,.slice .sh (xs.map aF)),(1,.int .i64 ino),(2,.func 161 []),(8,.int .i64 xs.length),(9,.int .i64 i),(10,.int .i64 j)] []=r:=by
 intro f;induction f with
 |zero =>
  intro i j h1 h2 h3 h4;obtain rfl:i=b:=by omega
  rw[aC];have hlt:((i:Int)<(j:Int))=False:=by simp; omega
  simp only[pU,hlt,EW,simprocAttr];exact hx _ _
 |succ f ih =>
  intro i j h1 h2 h3 h4;rw[aC]
  by_cases hij:i<j
  ·have hlt:((i:Int)<(j:Int))=True:=by simp; omega
   obtain⟨m1,m2,m3,m4,m5⟩:=wP i j (by omega) (by omega)
   have hmid:(i+j) / 2<xs.length:=by omega
   have hx:=List.getElem?_eq_getElem hmid;have hl:=hb.lt _ _ hx;have hk:=fun x:Node=>ad4 x ino []
   simp only[pU,hlt,m1,m2,m3,m4,hx,hk,EW,simprocAttr];refine aB (fun hq=>?_) (fun hq=>?_)
   ·simp only[pU,m5,EW,simprocAttr];exact ih ((i+j) / 2+1) j (by omega) (hl.1 hq) h3 h4
   ·simp only[pU,EW,simprocAttr];exact ih i ((i+j) / 2) (by omega) h2 (Nat.not_lt.1 fun h=>by rw[hl.2 h] at hq; cases hq) (by omega)
  ·obtain rfl:i=b:=by omega
   have hlt:((i:Int)<(j:Int))=False:=by simp; omega
   simp only[pU,hlt,EW,simprocAttr];exact hx _ _
def acG(xs:List Node)(ino:Int)(b:Nat)(hb:IC (fun x=>decide (jf x.ino ino<0)) xs b)(hn:xs.length<=100000):ag aH 160 [.slice .sh (xs.map aF),.int .i64 ino,.func 161 []] []=some (.tuple [.int .i64 b,.bool (j4 (fun x=>jf x.ino ino==0) xs b)],[]):=by
 refine ai ?_;simp only[Fc,pU,EW,simprocAttr];refine Ow hb hn (fun v q=>?_) xs.length 0 xs.length (by omega) (by omega) hb.le (by omega)
 have hk:=fun x:Node=>ad4 x ino []
 unfold j4
 by_cases hlt:b<xs.length
 ·have hx:=List.getElem?_eq_getElem hlt;have h1:((b:Int)<(xs.length:Int))=True:=by simp; omega
  simp only[pU,hx,h1,hk,EW,simprocAttr]
 ·have hx:xs[b]?=none:=List.getElem?_eq_none (by omega)
  have h1:((b:Int)<(xs.length:Int))=False:=by simp; omega
  simp only[pU,hx,h1,EW,simprocAttr]
def S7{xs:List bI}{c g:Int}{b:Nat}(hb:IC (fun x=>decide (cM x c g<0)) xs b)(hn:xs.length<=100000){k:List K}{r:Option (ae×aj)}
  (hx:∀v q,kr (ag aH) [.tmp 6,.tmp 7] 0 k ⟨.exit 0,[(0,.slice .sh (xs.map cF)),(2,.iM 89 [.agg [.int .i64 c,.int .i64 g]]),(4,.ptr 0 0),(8,.int .i64 xs.length),(9,.int .i64 b),(10,v),(17,q)],[.cells [.int .i64 c,.int .i64 g]]⟩=r) :
  ∀(f i j:Nat),j-i<=f->i<=b->b<=j->j<=xs.length->bS (ag aH) [.tmp 6,.tmp 7] 0 k (.loop [0,2,4,8,9,10] Sq) [(0,.slice .sh (xs.map cF)),(2,.iM 89 [.agg [.int .i64 c,.int .i64 g]]),(4,.ptr 0 0),(8,.int .i64 xs.length),(9,.int .i64 i),(10,.int .i64 j)] [.cells [.int .i64 c,.int .i64 g]]=r:=by
 intro f;induction f with
 |zero =>
  intro i j h1 h2 h3 h4;obtain rfl:i=b:=by omega
  rw[aC];have hlt:((i:Int)<(j:Int))=False:=by simp; omega
  simp only[Al,hlt,EW,simprocAttr];exact hx _ _
 |succ f ih =>
  intro i j h1 h2 h3 h4;rw[aC]
  by_cases hij:i<j
  ·have hlt:((i:Int)<(j:Int))=True:=by simp; omega
   obtain⟨m1,m2,m3,m4,m5⟩:=wP i j (by omega) (by omega)
   have hmid:(i+j) / 2<xs.length:=by omega
   have hx:=List.getElem?_eq_getElem hmid;have hl:=hb.lt _ _ hx;have hk:=fun x:bI=>k89 c g c g x [.cells [.int .i64 c,.int .i64 g]]
   simp only[Al,hlt,m1,m2,m3,m4,hx,hk,EW,simprocAttr];refine aB (fun hq=>?_) (fun hq=>?_)
   ·simp only[Al,m5,EW,simprocAttr];exact ih ((i+j) / 2+1) j (by omega) (hl.1 hq) h3 h4
   ·simp only[Al,EW,simprocAttr];exact ih i ((i+j) / 2) (by omega) h2 (Nat.not_lt.1 fun h=>by rw[hl.2 h] at hq; cases hq) (by omega)
  ·obtain rfl:i=b:=by omega
   have hlt:((i:Int)<(j:Int))=False:=by simp; omega
   simp only[Al,hlt,EW,simprocAttr];exact hx _ _
def akf(xs:List bI)(c g:Int)(b:Nat)(hb:IC (fun x=>decide (cM x c g<0)) xs b)(hn:xs.length<=100000):ag aH 218 [.slice .sh (xs.map cF),.agg [.int .i64 c,.int .i64 g],.iM 89 [.agg [.int .i64 c,.int .i64 g]]] []=some (.tuple [.int .i64 b,.bool (j4 (fun x=>cM x c g==0) xs b)],[]):=by
 refine ai ?_;simp only[KG,Al,EW,simprocAttr];refine S7 hb hn (fun v q=>?_) xs.length 0 xs.length (by omega) (by omega) hb.le (by omega)
 have hk:=fun x:bI=>k89 c g c g x [.cells [.int .i64 c,.int .i64 g]]
 unfold j4
 by_cases hlt:b<xs.length
 ·have hx:=List.getElem?_eq_getElem hlt;have h1:((b:Int)<(xs.length:Int))=True:=by simp; omega
  simp only[Al,hx,h1,hk,EW,simprocAttr]
 ·have hx:xs[b]?=none:=List.getElem?_eq_none (by omega)
  have h1:((b:Int)<(xs.length:Int))=False:=by simp; omega
  simp only[Al,hx,h1,EW,simprocAttr]
end
section
section
variable {α:Type} (enc:α->ae) {f sz bytes:Nat}
def vr(hp:aH.fZ f=some (fq sz bytes))(hw:∀a,(enc a).cells.length=sz)(hb:bytes<=1000){l:List α}(h0:l≠[])(hn:l.length<=100000)(M:aj) :
  ag aH f [.slice .sh (l.map enc)] M=some (.aW M.length 0 sz 0 l.length,M++[.arr sz 0 (l.map enc)]):=by
 refine bR (g:=fq sz bytes) hp ?_;obtain⟨a,r,rfl⟩:=List.exists_cons_of_ne_nil h0;have hw:wid ((a::r).map enc) sz:=by have:=kQ enc sz hw (a::r); simpa using this
 have hr:aP ((a::r).map enc).length bytes:=by have:=jn (a:=(a::r).length) (b:=bytes) (by omega) (by omega); simpa using this
 unfold fq;simp only[List.map_cons] at hw hr ⊢;rw[bo ⟨hw,hr⟩];simp
def wo(hp:aH.fZ f=some (fq sz bytes)){l:List α}(h0:l=[])(M:aj):ag aH f [.slice .sh (l.map enc)] M=some (.slice .c0 [],M):=by
 subst h0; exact bR (g:=fq sz bytes) hp rfl
def BD(hp:aH.fZ f=some (eD sz bytes))(hb:bytes<=1000){l:List α}{b id v:Nat}(h:b<=l.length)(hn:l.length<=100000)(x:ae)(hx:x.cells.length=sz)(M:aj)(hM:nth M id=some (.arr sz v (l.map enc))) :
  ag aH f [.aW id v sz 0 l.length,.int .i64 b,.slice .sh [x]] M=some (.aW id (v+1) sz 0 (l.length+1),dA M id (.arr sz (v+1) ((l.map enc).take b++x::(l.map enc).drop b))):=by
 refine bR (g:=eD sz bytes) hp ?_;have hr:aP ((l.map enc).length+1) bytes:=by have:=jn (a:=l.length+1) (b:=bytes) (by omega) (by omega); simpa using this
 unfold eD;simp only[hM];rw[bo ⟨trivial,trivial,trivial,by simp,by omega,by simpa using h,hx,hr⟩]
 simp
def yc(hp:aH.fZ f=some (eD sz bytes)){b:Nat}(h0:b=0)(x:ae)(hx:x.cells.length=sz)(M:aj) :
  ag aH f [.slice .c0 [],.int .i64 (b:Int),.slice .sh [x]] M=some (.aW M.length 0 sz 0 1,M++[.arr sz 0 [x]]):=by
 subst h0;refine bR (g:=eD sz bytes) hp ?_;unfold eD;simp only[];rw[bo ⟨rfl,hx⟩]
def adN(hp:aH.fZ f=some (eL sz)){l:List α}{b id v:Nat}(h:b<l.length)(hn:l.length<=100000)(M:aj)(hM:nth M id=some (.arr sz v (l.map enc))) :
  ag aH f [.aW id v sz 0 l.length,.int .i64 b,.int .i64 ((b+1:Nat):Int)] M=some (.aW id (v+1) sz 0 (l.length-1),dA M id (.arr sz (v+1) ((l.map enc).take b++(l.map enc).drop (b+1)))):=by
 refine bR (g:=eL sz) hp ?_;unfold eL;simp only[hM];rw[bo ⟨trivial,trivial,trivial,by simp,by omega,by simpa using h,by omega,by simp; omega⟩]
 simp
def HU{M:aj}(i:Nat)(a b:aM):dA (dA M i a) i b=dA M i b:=by
 induction M generalizing i with
 |nil=>rfl
 |cons x r ih =>
  cases i with
  |zero=>rfl
  |succ i=>simp only[dA,ih]
def Re{l:List α}{b:Nat}(h:b<l.length):List.take (l.length-1) ((l.map enc).take b++(l.map enc).drop (b+1))=(l.eraseIdx b).map enc:=by
 rw[List.take_of_length_le (by simp; omega),List.eraseIdx_eq_take_drop_succ]
 simp
def yb(hp:aH.fZ f=some (j8 sz)){l:List α}{b id v:Nat}(h:b<l.length)(hn:l.length<=100000)(M:aj)(hM:nth M id=some (.arr sz v (l.map enc))) :
  ag aH f [.aW id v sz 0 l.length,.int .i64 b,.int .i64 ((b+1:Nat):Int)] M=some (.slice .sh ((l.eraseIdx b).map enc),dA M id (.tick sz (l.length-1))):=by
 refine bR (g:=j8 sz) hp ?_;unfold j8 eL;simp only[hM];rw[bo ⟨trivial,trivial,trivial,by simp,by omega,by simpa using h,by omega,by simp; omega⟩]
 simp only[aI,ae.ot,ae.gQ,z8 hM,ae.ids,ae.fP,ae.cX,kC,HU,if_true,List.drop_zero,Int.toNat_natCast,List.length_map];rw[Re enc h];have:(List.take b (l.map enc)++List.drop (b+1) (l.map enc)).length=l.length-1:=by simp; omega
 rw[this]
def Fq{l:List α}{b:Nat}(h:b<=l.length)(x:α):List.take (l.length+1) ((l.map enc).take b++enc x::(l.map enc).drop b)=(l.take b++x::l.drop b).map enc:=by
 rw[List.take_of_length_le (by simp; omega)]
 simp
end
attribute [local irreducible] bS cz fu gK bG kr ag ar aQ aG
def Qw(t:Tree)(ino:Int)(ht:Small t)(hr:jv t)(M:aj):ar (ag aH) 86 [.agg [au t.nodes,.int .i64 t.next,.int .i64 t.af],.int .i64 ino] M=some (.tuple [.agg (an (aD t.nodes ino)),.bool (find t.nodes ino).isSome],M) :=
 cO (c86 t ino ht hr) M
def aef(t:Tree)(ino:Int)(ht:Small t)(hr:jv t)(M:aj):ar (ag aH) 200 [.agg [au t.nodes,.int .i64 t.next,.int .i64 t.af],.int .i64 ino] M=some (.tuple [.agg (ak (gD t ino).1),.int .i64 (gD t ino).2],M) :=
 cO (aj2 t ino ht hr) M
end
section
attribute [local irreducible] bS cz fu gK bG kr ag ar aQ aG
def mZ(l:List bI)(c h:Int):Int×Int:=match l.find? (dP c h) with
 |some x=>(x.ino,0)
 |none=>(0,80)
def aki(l:List bI)(c h:Int)(hn:l.length<=100000):ag aH 226 [cj l,.int .i64 c,.int .i64 h] []=some (.tuple [.int .i64 (mZ l c h).1,.int .i64 (mZ l c h).2],[]):=by
 refine ai ?_;have hk:=UW l c h hn;simp only[KJ,VA,hk,EW,simprocAttr];unfold mZ;rcases pF (dP c h) l 0 with ⟨h1,h2⟩|⟨m,x,h1,h2,h3,_⟩
 ·simp only[VA,h1,h2,EW,simprocAttr]
 ·have hlt:(((0+m:Nat):Int)<0)=False:=by simp
  simp only[VA,h1,h2,h3,hlt,df,EW,simprocAttr]
def alE l c h hn:=cP (aki l c h hn)
def r8(l:List bI)(ino:Int):Bool:=l.any fun x=>x.ino==ino
def c92(l:List bI)(ino:Int)(hn:l.length<=100000):ag aH 92 [cj l,.int .i64 ino] []=some (.bool (r8 l ino),[]):=by
 refine ai ?_;have hk:ar (ag aH) 164 [cj l,.func 165 [.ptr 0 0]] [.cells [.int .i64 ino]]=some (.bool (r8 l ino),[.cells [.int .i64 ino]]):=eE (ids:=[0]) rfl rfl (Pt ino) rfl rfl (acH l ino hn) rfl rfl rfl rfl rfl;simp only[WY,E92,hk,EW,simprocAttr]
def fp(t:Tree):List Int:=(t.nodes.filter gM).map Node.ino
def lH(t:Tree)(l:List bI)(c h ino:Int):List bI×Int :=
 if (!BR c h)=true then (l,1)
 else if (!(find t.nodes ino).isSome||gM (aD t.nodes ino))=true then (l,70)
 else if ((aD t.nodes ino).kind==2)=true then (l,72)
 else if j4 (fun x=>cM x c h==0) l (fm (fun x=>decide (cM x c h<0)) l)=true then (l,71)
 else if decide (64<=(l.length:Int))=true then (l,76)
 else (l.take (fm (fun x=>decide (cM x c h<0)) l)++⟨c,h,ino⟩::l.drop (fm (fun x=>decide (cM x c h<0)) l),0)
def oQ(a b:bI):Prop:=a.aV<b.aV\/(a.aV=b.aV/\a.handle<b.handle)
abbrev ko(l:List bI):Prop:=l.Pairwise oQ
def jH(x:bI)(c h:Int):(cM x c h<0)↔(x.aV<c\/(x.aV=c/\x.handle<h)):=by
 unfold cM Zf jf
 by_cases h1:x.aV<c
 ·simp[h1]
 ·by_cases h2:c<x.aV
  ·simp[h1,h2]; omega
  ·have:x.aV=c:=by omega
   by_cases h3:x.handle<h
   ·simp[h3,this]
   ·by_cases h4:h<x.handle
    ·simp[h3,h4,this]
    ·simp[h3,h4,this]
def wy(x:bI)(c h:Int):(cM x c h=0)↔(x.aV=c/\x.handle=h):=by
 unfold cM Zf jf
 by_cases h1:x.aV<c
 ·simp[h1]; omega
 ·by_cases h2:c<x.aV
  ·simp[h1,h2]; omega
  ·have:x.aV=c:=by omega
   by_cases h3:x.handle<h
   ·simp[h3,this]; omega
   ·by_cases h4:h<x.handle
    ·simp[h3,h4,this]; omega
    ·simp[h3,h4,this]; omega
def wM{l:List bI}(h:ko l)(c g:Int):IC (fun x=>decide (cM x c g<0)) l (fm (fun x=>decide (cM x c g<0)) l):=by
 refine zN (h.imp ?_);intro a b hab hb;simp only[decide_eq_true_eq,jH] at hb ⊢;unfold oQ at hab;omega
def alC(l:List bI)(c g:Int)(hl:ko l)(hn:l.length<=100000)(M:aj):ar (ag aH) 218 [cj l,.agg [.int .i64 c,.int .i64 g],.iM 89 [.agg [.int .i64 c,.int .i64 g]]] M =
  some (.tuple [.int .i64 (fm (fun x=>decide (cM x c g<0)) l),.bool (j4 (fun x=>cM x c g==0) l (fm (fun x=>decide (cM x c g<0)) l))],M) :=
 cO (akf l c g _ (wM hl c g) hn) M
def ajg(t:Tree)(l:List bI)(c h ino:Int)(ht:Small t)(hr:jv t)(hl:ko l)(hn:l.length<=64):ag aH 135 [aA t,cj l,.int .i64 c,.int .i64 h,.int .i64 ino] []=some (.tuple [cj (lH t l c h ino).1,.int .i64 (lH t l c h ino).2],[]):=by
 refine ai ?_;have q1:=Qw t ino ht hr;have q2:=alC l c h hl (by omega)
 have hb:=(wM hl c h).le;unfold lH;generalize fm (fun x=>decide (cM x c h<0)) l=b at q2 hb ⊢
 generalize j4 (fun x=>cM x c h==0) l b=e at q2 ⊢
 simp only[JP,Gb,aA,ak,k88,q1,q2,EW,simprocAttr];refine aB (fun h1=>?_) (fun h1=>?_)
 ·simp only[Gb,h1,EW,simprocAttr]
 ·have q3:=fun M=>Xg (aD t.nodes ino) M
  simp only[an] at q3
  by_cases h0:l=[]
  ·have hb0:b=0:=by subst h0; simpa using hb
   have p1:=fun M=>wo cF (f:=220) (sz:=3) (bytes:=24) rfl h0 M
   have p2:=fun M=>yc (f:=219) (sz:=3) (bytes:=24) rfl hb0 (.agg [.int .i64 c,.int .i64 h,.int .i64 ino]) rfl M
   simp only[Gb,h1,q1,q2,q3,an,EW,simprocAttr]
   repeat' ((first|refine aB (fun hb=>?_) (fun hb=>?_)|refine aJ (fun hb=>?_) (fun hb=>?_)|refine bp (fun hb=>?_) (fun hb=>?_))<;>simp only[hb,EW,Gb,q3,p1,p2,an,simprocAttr])
   all_goals clear q1 q2 q3 p1 p2
   all_goals first|(simp_all only[iw,↓reduceIte,reduceCtorEq,bne_self_eq_false]; done)|(simp_all only[iw,↓reduceIte,reduceCtorEq,bne_self_eq_false]; rfl)
  ·have hb0:=hb;have p1:=fun M=>vr cF (f:=220) (sz:=3) (bytes:=24) rfl (fun _=>rfl) (by omega) h0 (by omega) M
   have p2:=fun M=>BD cF (f:=219) (sz:=3) (bytes:=24) (v:=0) (id:=3) rfl (by omega) hb (by omega) (.agg [.int .i64 c,.int .i64 h,.int .i64 ino]) rfl M
   simp only[Gb,h1,q1,q2,q3,an,EW,simprocAttr]
   repeat' ((first|refine aB (fun hb=>?_) (fun hb=>?_)|refine aJ (fun hb=>?_) (fun hb=>?_)|refine bp (fun hb=>?_) (fun hb=>?_))<;>simp only[hb,EW,Gb,q3,p1,p2,an,simprocAttr])
   all_goals clear q1 q2 q3 p1 p2
   all_goals first|(simp_all only[iw,↓reduceIte,reduceCtorEq,bne_self_eq_false]; done)|(simp_all only[iw,↓reduceIte,reduceCtorEq,bne_self_eq_false]; exact congrArg (fun z=>some (ae.tuple [ae.slice .sh z,ae.int .i64 0],([]:aj))) (Fq cF hb0 ⟨c,h,ino⟩))
def ali(t:Tree)(l:List bI)(c h ino:Int)(ht:Small t)(hr:jv t)(hl:ko l)(hn:l.length<=64)(M:aj):ar (ag aH) 135 [.agg [au t.nodes,.int .i64 t.next,.int .i64 t.af],cj l,.int .i64 c,.int .i64 h,.int .i64 ino] M=some (.tuple [cj (lH t l c h ino).1,.int .i64 (lH t l c h ino).2],M) :=
 cO (ajg t l c h ino ht hr hl hn) M
def k92(l:List bI)(ino:Int)(hn:l.length<=100000)(M:aj):ar (ag aH) 92 [cj l,.int .i64 ino] M=some (.bool (r8 l ino),M):=cO (c92 l ino hn) M
def eo(t:Tree)(l:List bI)(c h:Int):Tree×List bI×Int:=match l.find? (dP c h) with
 |none=>(t,l,80)
 |some x=>(if ((find t.nodes x.ino).isSome&&gM (aD t.nodes x.ino) && !r8 (l.eraseP (dP c h)) x.ino)=true then (gD t x.ino).1 else t,l.eraseP (dP c h),0)
def ajh(t:Tree)(l:List bI)(c h:Int)(ht:Small t)(hr:jv t)(hn:l.length<=64):ag aH 136 [aA t,cj l,.int .i64 c,.int .i64 h] []=some (.tuple [aA (eo t l c h).1,cj (eo t l c h).2.1,.int .i64 (eo t l c h).2.2],[]):=by
 refine ai ?_;have hk:=UW l c h (by omega)
 unfold eo;rcases pF (dP c h) l 0 with ⟨h1,h2⟩|⟨m,x,h1,h2,h3,h4⟩
 ·simp only[Fa,Vp,hk,h1,h2,aA,ak,EW,simprocAttr]
 ·have hlt:(((0+m:Nat):Int)<0)=False:=by simp
  have hm:m<l.length:=(List.getElem?_eq_some_iff.1 h2).1;have hne:l≠[]:=by rintro rfl; simp at hm
  have p1:=fun M=>vr cF (f:=220) (sz:=3) (bytes:=24) rfl (fun _=>rfl) (by omega) hne (by omega) M
  have p2:=fun M=>yb cF (f:=223) (sz:=3) (v:=0) (id:=2) rfl hm (by omega) M
  have hw:IntKind.i64.wrap ((m:Int)+1)=((m+1:Nat):Int):=by rw[cL (by omega) (by omega)]; rfl
  have q1:=Qw t x.ino ht hr;have q2:=aef t x.ino ht hr;have q3:=fun M=>Xg (aD t.nodes x.ino) M
  have q4:=k92 (l.eraseP (dP c h)) x.ino (by have:=List.length_eraseP_le (p:=dP c h) (l:=l); omega)
  simp only[h3];generalize gD t x.ino=fr at q2 ⊢;rw[h4] at p2;simp only[an,ak] at q1 q2 q3;simp only[Fa,Vp,hk,h1,h2,hlt,df,p1,p2,hw,q1,q3,an,aA,ak,FZ,kC,EW,simprocAttr]
  repeat' ((first|refine aB (fun hb=>?_) (fun hb=>?_)|refine aJ (fun hb=>?_) (fun hb=>?_)|refine bp (fun hb=>?_) (fun hb=>?_))<;>simp only[hb,EW,Vp,hk,h1,h2,hlt,p1,p2,hw,q1,q2,q3,q4,an,FZ,kC,simprocAttr])
  all_goals clear q1 q2 q3 q4 p1 p2 hk
  all_goals first|rfl|(simp_all only[iw,↓reduceIte,reduceCtorEq,bne_self_eq_false]; done)|(simp_all only[iw,↓reduceIte,reduceCtorEq,bne_self_eq_false]; rfl)|skip
def adZ(t:Tree)(l:List bI)(c h:Int)(ht:Small t)(hr:jv t)(hn:l.length<=64)(M:aj):ar (ag aH) 136 [.agg [au t.nodes,.int .i64 t.next,.int .i64 t.af],cj l,.int .i64 c,.int .i64 h] M=some (.tuple [.agg (ak (eo t l c h).1),cj (eo t l c h).2.1,.int .i64 (eo t l c h).2.2],M) :=
 cO (ajh t l c h ht hr hn) M
def bK.sz{t:Tree}{dep:Int->Nat}{x:Int}(h:bK t dep x):Sz 200 t where
 nodes:=h.nodes
 av:=fun n hn=>by have:=(h.pV _ _ ((fG h.fN.hV).2 ⟨hn,rfl⟩)).2; omega
 data:=fun n hn=>by
  have hi:=(fG h.fN.hV).2 ⟨hn,rfl⟩;rcases h.kind _ _ hi with h1|h1
  ·have:=(h.file _ _ hi h1).2.2; omega
  ·rw[h.dir _ _ hi h1]; simp
def Sz.Aa{b:Nat}{t:Tree}(h:Sz b t)(hb:b<=100000:=by omega):Small t:=h.small hb
def Rt(t:Tree):Prop:=∃dep,bK t dep 0
def Rt.fN{t:Tree}(h:Rt t):jv t:=let ⟨_,g⟩:=h; g.fN
def Rt.sz{t:Tree}(h:Rt t):Sz 200 t:=let ⟨_,g⟩:=h; g.sz
def Rt.small{t:Tree}(h:Rt t):Small t:=h.sz.small (by omega)
def Rt.free{t:Tree}(h:Rt t)(ino:Int):Rt (gD t ino).1:=let ⟨_,g⟩:=h; ⟨_,G4 g ino⟩
def Rt.close{t:Tree}(h:Rt t)(l:List bI)(c g:Int):Rt (eo t l c g).1:=by
 unfold eo;split
 ·exact h
 ·split
  ·exact h.free _
  ·exact h
def qV(t:Tree)(l:List bI)(c g:Int):(eo t l c g).2.1.length<=l.length:=by
 unfold eo;split
 ·exact Nat.le_refl _
 ·exact List.length_eraseP_le
def xm(n:Tree)(B:Nat)(M:aj):List.map (ae.eH B M) (ak n)=ak n:=rfl
def YX{t:Tree}(ht:t.nodes.length<=100000){k:List K}{R:List Int->Option (ae×aj)}
  (hx:∀(out:List Int) e,kr (ag aH) [.tmp 2] 0 k ⟨.exit 0,(3,.slice (.own 1) (out.map fF))::e,[.cells (ak t),.tick 1 out.length]⟩=R out) :
  ∀(l pre:List Node)(out:List Int),t.nodes=pre++l->out.length<=pre.length->bS (ag aH) [.tmp 2] 0 k (.loop [3,7,8,9] YO) [(3,.slice (.own 1) (out.map fF)),(7,au t.nodes),(8,.int .i64 t.nodes.length),(9,.int .i64 pre.length)] [.cells (ak t),.tick 1 out.length]=R (out++(l.filter gM).map Node.ino):=by
 intro l;induction l with
 |nil =>
  intro pre out h ho;rw[aC];simp only[E90,cQ h,List.filter_nil,EW,simprocAttr];exact hx _ _
 |cons n rest ih =>
  intro pre out h ho;rw[aC];have hlen:pre.length+1<=100000:=by rw[h] at ht; simp at ht; omega
  have hw:=ny pre n;have hi1:=ih (pre++[n]) out (by rw[h]; simp) (by simp; omega)
  have hi2:=ih (pre++[n]) (out++[n.ino]) (by rw[h]; simp) (by simp; omega)
  simp only[List.length_append,List.length_cons,List.length_nil,List.map_append,List.map_cons,List.map_nil] at hi1 hi2;have r1:aP (out.length+1) 8=True:=jx;have q3:=fun M=>Xg n M
  simp only[an] at q3;simp only[E90,cv h,bT h,an,ak,q3,EW,simprocAttr] at hi1 hi2 ⊢;refine aB (fun hb=>?_) (fun hb=>?_)
  ·simp only[E90,hb,r1,lR,hw,EW,simprocAttr];simpa[hb] using hi2
  ·simp only[E90,hb,hw,EW,simprocAttr];simpa[hb] using hi1
def c90(t:Tree)(ht:t.nodes.length<=100000):ag aH 90 [aA t] []=some (oL (fp t),[]):=by
 refine ai ?_;have hl:=YX ht (k:=[.block 0,.seq ahs]) (R:=fun out=>some (oL out,[])) (fun out e=>by simp only[E90,EW,simprocAttr]) t.nodes [] [] rfl (Nat.le_refl _)
 simp only[ak,List.map_nil,List.length_nil] at hl;simp only[WX,E90,aA,ak,EW,simprocAttr];exact hl
def k90(t:Tree)(ht:t.nodes.length<=100000)(M:aj):ar (ag aH) 90 [.agg [au t.nodes,.int .i64 t.next,.int .i64 t.af]] M=some (oL (fp t),M):=cO (c90 t ht) M
def iu(c:Int):List bI->Tree->List bI->Tree×List bI
 | [],t,l=>(t,l)
 |x::r,t,l=>if (x.aV==c)=true then iu c r (eo t l c x.handle).1 (eo t l c x.handle).2.1 else iu c r t l
def uK(t:Tree)(l:List bI)(c:Int):Tree×List bI:=iu c l t l
def SP{h0:List bI}(c:Int)(h64:h0.length<=64){k:List K}{R:Tree->List bI->Option (ae×aj)}
  (hx:∀(t:Tree) (l:List bI) e,kr (ag aH) [.bl 6 3,.tmp 7] 0 k ⟨.exit 0,(1,cj l)::(2,.int .i64 c)::(3,.ptr 0 0)::(6,.ptr 1 0)::e,[.cells (ak t),.cells [.slice .c0 [],.int .i64 0,.int .i64 0]]⟩=R t l) :
  ∀(r pre:List bI)(t:Tree)(l:List bI),h0=pre++r->Rt t->l.length<=64->bS (ag aH) [.bl 6 3,.tmp 7] 0 k (.loop [1,2,3,6,10,11,12] R4) [(1,cj l),(2,.int .i64 c),(3,.ptr 0 0),(6,.ptr 1 0),(10,cj h0),(11,.int .i64 h0.length),(12,.int .i64 pre.length)] [.cells (ak t),.cells [.slice .c0 [],.int .i64 0,.int .i64 0]]=R (iu c r t l).1 (iu c r t l).2:=by
 intro r;induction r with
 |nil =>
  intro pre t l h ht hl;rw[aC];simp only[Gd,cQ h,iu,EW,simprocAttr];exact hx _ _ _
 |cons x rest ih =>
  intro pre t l h ht hl;rw[aC];have hlen:pre.length+1<=100000:=by rw[h] at h64; simp at h64; omega
  have hw:=ny pre x;have q1:=adZ t l c x.handle ht.small ht.fN hl;have hi1:=ih (pre++[x]) t l (by rw[h]; simp) ht hl
  have hi2:=ih (pre++[x]) _ _ (by rw[h]; simp) (ht.close l c x.handle) (Nat.le_trans (qV t l c x.handle) hl)
  rw[iu];generalize eo t l c x.handle=cl at q1 hi2 ⊢;simp only[List.length_append,List.length_cons,List.length_nil] at hi1 hi2;simp only[Gd,cv h,bT h,df,ak,EW,simprocAttr] at q1 hi1 hi2 ⊢;refine aB (fun hb=>?_) (fun hb=>?_)
  ·simp only[Gd,hb,q1,hw,EW,simprocAttr];exact hi2
  ·simp only[Gd,hb,hw,Bool.false_eq_true,EW,simprocAttr];exact hi1
def ajq(t:Tree)(l:List bI)(c:Int)(ht:Rt t)(hl:l.length<=64):ag aH 148 [aA t,cj l,.int .i64 c] []=some (.tuple [aA (uK t l c).1,cj (uK t l c).2],[]):=by
 refine ai ?_;have hq:=SP (h0:=l) c hl (k:=[.block 0,.seq Zw]) (R:=fun t l=>some (.tuple [aA t,cj l],[])) (fun t l e=>by simp only[Gd,aA,ak,EW,simprocAttr]) l [] t l rfl ht hl
 simp only[ak,List.length_nil] at hq;simp only[JV,Gd,aA,ak,EW,simprocAttr];exact hq
def alq(t:Tree)(l:List bI)(c:Int)(ht:Rt t)(hl:l.length<=64)(M:aj):ar (ag aH) 148 [.agg [au t.nodes,.int .i64 t.next,.int .i64 t.af],cj l,.int .i64 c] M=some (.tuple [.agg (ak (uK t l c).1),cj (uK t l c).2],M) :=
 cO (ajq t l c ht hl) M
end
abbrev AM(α:Type):=List (Int×α)
section
variable {α:Type}
def uF(l:AM α):List ae:=l.map fun p => .int .i64 p.1
def ji(enc:α->ae)(l:AM α):List ae:=l.map fun p=>enc p.2
def cD:AM α->Int->Option α
 | [],_=>none
 |(k',v)::l,k=>if k=k' then some v else cD l k
def gJ:AM α->Int->α->AM α
 | [],k,v=>[(k,v)]
 |(k',v')::l,k,v=>if k=k' then (k,v)::l else (k',v')::gJ l k v
def fU:∀(l:AM α)(k:Int)(v:α)(j:Int),cD (gJ l k v) j=if j=k then some v else cD l j
 | [],k,v,j=>by simp only[gJ,cD]
 |(k',v')::l,k,v,j=>by
  simp only[gJ];split
  ·rename_i h;subst h;simp only[cD];split<;>rfl
  ·rename_i h;simp only[cD];split
   ·rename_i h2;rw[if_neg (fun hh=>h (hh.symm.trans h2))]
   ·exact fU l k v j
def sj:∀(l:AM α)(k:Int)(v:α),cD l k=some v->(k,v)∈l
 |(k',v')::l,k,v,h=>by
  simp only[cD] at h;split at h
  ·rename_i hk;injection h with h
   subst h; subst hk;exact List.mem_cons_self
  ·exact List.mem_cons_of_mem _ (sj l k v h)
def wR:∀(l:AM α)(k:Int)(v:α),(gJ l k v).length<=l.length+1
 | [],_,_=>by simp[gJ]
 |(k',v')::l,k,v=>by
  simp only[gJ];split
  ·simp
  ·have:=wR l k v;simp; omega
def gX(enc:α->ae):∀(l:AM α)(k:Int),tU .i (.int .i64 k) (uF l) (ji enc l)=some ((cD l k).map enc)
 | [],k=>rfl
 |(k',v)::l,k=>by
  show aG (fx .i (.int .i64 k) (.int .i64 k')) (fun b=>rn b (some (some (enc v))) (tU .i (.int .i64 k) (uF l) (ji enc l)))=_
  rw[gX enc l k];simp only[fx,↓reduceIte,aI,cD]
  by_cases h:k=k'
  ·rw[if_pos h,show(k==k')=true by simpa using h,o5]; rfl
  ·rw[if_neg h,show(k==k')=false by simpa using h,iW]
end
section
variable {α:Type}
def lA(enc:α->ae):∀(l:AM α)(k:Int)(v:α),tV .i (.int .i64 k) (enc v) (uF l) (ji enc l)=some (uF (gJ l k v),ji enc (gJ l k v))
 | [],k,v=>by
  show aG (fx .i (.int .i64 k) (.int .i64 k)) (fun _=>some ([ae.int .i64 k],[enc v]))=_
  simp only[fx,↓reduceIte,aI];rfl
 |(k',v')::l,k,v=>by
  show aG (fx .i (.int .i64 k) (.int .i64 k')) (fun b=>rn b (some (ae.int .i64 k::uF l,enc v::ji enc l)) (aG (tV .i (.int .i64 k) (enc v) (uF l) (ji enc l)) fun x=>some (ae.int .i64 k'::x.1,enc v'::x.2)))=_
  rw[lA enc l k v];simp only[fx,↓reduceIte,aI,gJ]
  by_cases h:k=k'
  ·rw[if_pos h,show(k==k')=true by simpa using h,o5]; rfl
  ·rw[if_neg h,show(k==k')=false by simpa using h,iW]; rfl
def Q7(enc:α->ae)(B:Nat)(M:aj)(h:∀a,(enc a).eJ B M=enc a)(l:AM α):List.map (ae.eJ B M) (ji enc l)=ji enc l:=by
 unfold ji;rw[List.map_map];exact List.map_congr_left (fun p _=>h p.2)
def Lp(enc:α->ae)(h:∀a,(enc a).ids=[])(l:AM α):(ji enc l).flatMap ae.ids=[]:=by
 unfold ji;rw[List.flatMap_map];exact List.flatMap_eq_nil_iff.2 fun p _=>h p.2
def DN(enc:α->ae)(h:∀a,(enc a).flat=true)(l:AM α):(ji enc l).all ae.flat=true:=List.all_eq_true.2 fun x hx=>by
 obtain⟨p,_,rfl⟩:=List.mem_map.1 hx;exact h p.2
def PO(enc:α->ae)(ρ:Nat->Nat)(h:∀a,(enc a).iE ρ=enc a)(l:AM α):(ji enc l).map (ae.iE ρ)=ji enc l:=by
 unfold ji;rw[List.map_map];exact List.map_congr_left (fun p _=>h p.2)
def FF(o:Option Bool):jk (.bool false) false (o.map ae.bool) = .bool (o.getD false):=by cases o<;>rfl
end
def jj(nodes:List Node):Nat->Int->Int×AM Bool->Int×AM Bool
 |0,_,s=>s
 |f+1,ino,s=>(aD nodes ino).av.foldl (fun s e=>if (!((cD s.2 e.ino).getD false))=true then jj nodes f e.ino (s.1,gJ s.2 e.ino true) else s) (fO (s.1+(aD nodes ino).data.length),s.2)
def nu:ae := .func 166 [.ptr 0 0,.ptr 1 0,.ptr 2 0,.ptr 3 0]
def dC(t:Tree)(s:Int×AM Bool):aj:=[.cells (ak t),.cells [.int .i64 s.1],.cells [.cU 4],.cells [nu],.map (uF s.2) (ji ae.bool s.2)]
def flB(l:AM Bool):(ji ae.bool l).all ae.flat=true:=DN _ (fun _=>rfl) l
def rnB(ρ:Nat->Nat)(l:AM Bool):(ji ae.bool l).map (ae.iE ρ)=ji ae.bool l:=PO _ _ (fun _=>rfl) l
def idB(l:AM Bool):(ji ae.bool l).flatMap ae.ids=[]:=Lp _ (fun _=>rfl) l
def bkB(B:Nat)(M:aj)(l:AM Bool):List.map (ae.eJ B M) (ji ae.bool l)=ji ae.bool l:=Q7 _ _ _ (fun _=>rfl) l
def Co(t:Tree)(s:Int×AM Bool):(dC t s).map (aM.iE (da [0,1,2,3,4]))=dC t s/\(dC t s).map (aM.iE (px [0,1,2,3,4]))=dC t s:=by
 constructor
 ·simp only[dC,List.map_cons,List.map_nil,aM.iE,rnB]; rfl
 ·simp only[dC,List.map_cons,List.map_nil,aM.iE,rnB]; rfl
def aho(t:Tree)(s:Int×AM Bool)(L:aj):dK (dC t s++L) (da [0,1,2,3,4]) [0,1,2,3,4]=some (dC t s):=by
 have h:=(Co t s).1;simp only[dC,List.map_cons,List.map_nil] at h;injection h with h0 h; injection h with h1 h; injection h with h2 h; injection h with h3 h; injection h with h4 h
 simp only[dC,List.cons_append,List.nil_append,dK,nth,h0,h1,h2,h3,h4];simp only[aM.flat,flB,if_true];rfl
def ak2(t:Tree)(s:Int×AM Bool)(L:aj):iU (dC t s++L) [0,1,2,3]=[4,0,1,2,3]/\iU (dC t s++L) [0,1,2,3,4]=[4,0,1,2,3]:=by
 refine⟨rfl,?_⟩
 show[4,0,1,2,3]++((ji ae.bool s.2).flatMap ae.ids++[])=_
 rw[idB]; rfl
def PL(t:Tree)(s:Int×AM Bool)(L:aj):reach (dC t s++L) [0,1,2,3]=[0,1,2,3,4]/\eG (dC t s++L) [0,1,2,3,4]=[0,1,2,3,4]:=by
 obtain⟨h1,h2⟩:=ak2 t s L;have e0:ef [] [0,1,2,3]=[0,1,2,3]:=rfl;have e1:ef [0,1,2,3] [4,0,1,2,3]=[0,1,2,3,4]:=rfl;have e2:ef [0,1,2,3,4] [4,0,1,2,3]=[0,1,2,3,4]:=rfl;simp only[reach,eG,e0,h1,e1,h2,e2,and_self]
def Z8(t:Tree)(s s':Int×AM Bool)(L:aj):eW [0,1,2,3,4] (dC t s++L) [0,1,2,3,4] (dC t s')=dC t s'++L:=by
 have h:=(Co t s').2;simp only[dC,List.map_cons,List.map_nil] at h;injection h with h0 h; injection h with h1 h; injection h with h2 h; injection h with h3 h; injection h with h4 h
 simp only[dC,List.cons_append,List.nil_append,eW,h0,h1,h2,h3,h4,dA]
def UF(t:Tree)(s:Int×AM Bool):(dC t s).all aM.flat=true:=by
 simp only[dC,List.all_cons,aM.flat,flB]; rfl
def acW{t:Tree}{ino:Int}{s s':Int×AM Bool}{L:aj}(h:ag aH 166 [.int .i64 ino,.ptr 0 0,.ptr 1 0,.ptr 2 0,.ptr 3 0] (dC t s)=some (.tuple [],dC t s')) :
  ar (ag aH) 166 [.int .i64 ino,.ptr 0 0,.ptr 1 0,.ptr 2 0,.ptr 3 0] (dC t s++L)=some (.tuple [],dC t s'++L) :=
 eE (ids:=[0,1,2,3,4]) rfl (PL t s L).1 (aho t s L) (PL t s L).2 rfl h rfl rfl (UF t s') rfl (Z8 t s s' L)
def qv(t:Tree)(s:Int×AM Bool)(n:Node):aj:=[.cells [au t.nodes,.int .i64 t.next,.int .i64 t.af],.map (uF s.2) (ji ae.bool s.2),.cells [.cU 1],.cells [.int .i64 s.1],.cells [.func 166 [.ptr 0 0,.ptr 3 0,.ptr 2 0,.ptr 4 0]],.cells (an n)]
def Wj{t:Tree}{ino:Int}{s':Int×AM Bool}(n:Node)(h:ag aH 166 [.int .i64 ino,.ptr 0 0,.ptr 1 0,.ptr 2 0,.ptr 3 0] (dC t (0,[]))=some (.tuple [],dC t s')) :
  ar (ag aH) 166 [.int .i64 ino,.ptr 0 0,.ptr 3 0,.ptr 2 0,.ptr 4 0] (qv t (0,[]) n)=some (.tuple [],qv t s' n):=by
 have i1:iU (qv t (0,[]) n) [0,3,2,4]=[1,0,3,2,4]:=rfl;have i2:iU (qv t (0,[]) n) [0,3,2,4,1]=[1,0,3,2,4]:=rfl;have e0:ef [] [0,3,2,4]=[0,3,2,4]:=rfl;have e1:ef [0,3,2,4] [1,0,3,2,4]=[0,3,2,4,1]:=rfl;have e2:ef [0,3,2,4,1] [1,0,3,2,4]=[0,3,2,4,1]:=rfl
 have hr:reach (qv t (0,[]) n) [0,3,2,4]=[0,3,2,4,1]/\eG (qv t (0,[]) n) [0,3,2,4,1]=[0,3,2,4,1]:=by
  simp only[reach,eG,e0,i1,e1,i2,e2,and_self]
 have hp:dK (qv t (0,[]) n) (da [0,3,2,4,1]) [0,3,2,4,1]=some (dC t (0,[])):=by
  simp only[qv,dK,nth,aM.flat,flB,aI,if_true,aM.iE,rnB];rfl
 refine eE (ids:=[0,3,2,4,1]) rfl hr.1 hp hr.2 rfl h rfl rfl (UF t s') rfl ?_;simp only[dC,qv,eW,aM.iE,rnB,dA];rfl
section
attribute [local irreducible] bS cz fu gK bG kr ag ar aQ aG
def SS{t:Tree}{n:Node}{f:Nat}{k:List K}{R:Int×AM Bool->Option (ae×aj)}(hn:n.av.length<=100000)
  (ih:∀e,e∈n.av->∀s,ag aH 166 [.int .i64 e.ino,.ptr 0 0,.ptr 1 0,.ptr 2 0,.ptr 3 0] (dC t s)=some (.tuple [],dC t (jj t.nodes f e.ino s)))
  (hx:∀s e,kr (ag aH) [] 5 k ⟨.exit 0,e,dC t s++[.cells (an n)]⟩=R s) :
  ∀(l pre:List ct)(s:Int×AM Bool),n.av=pre++l->bS (ag aH) [] 5 k (.loop [3,4,22,23,24] R6) [(3,.ptr 2 0),(4,.ptr 3 0),(22,cT n.av),(23,.int .i64 n.av.length),(24,.int .i64 pre.length)] (dC t s++[.cells (an n)]) =
   R (l.foldl (fun s e=>if (!((cD s.2 e.ino).getD false))=true then jj t.nodes f e.ino (s.1,gJ s.2 e.ino true) else s) s):=by
 intro l;induction l with
 |nil =>
  intro pre s h;rw[aC];simp only[dC,Gg,cQ h,List.foldl_nil,EW,simprocAttr] at hx ⊢;exact hx _ _
 |cons x rest ihl =>
  intro pre s h;rw[aC];have hlen:pre.length+1<=100000:=by rw[h] at hn; simp at hn; omega
  have hw:=ny pre x;rw[List.foldl_cons];have hi1:=fun s=>ihl (pre++[x]) s (by rw[h]; simp)
  have q:=acW (L:=[.cells (an n),.cells (bU x)]) (ih x (by rw[h]; simp) (s.1,gJ s.2 x.ino true))
  generalize jj t.nodes f x.ino (s.1,gJ s.2 x.ino true)=s' at q ⊢;simp only[dC,nu,an,bU,List.length_append,List.length_cons,List.length_nil,Nat.zero_add,List.cons_append,List.nil_append] at hi1 q;simp only[dC,nu,Gg,cv h,bT h,an,bU,gX,FF,mapOf.eq_1,EW,simprocAttr];refine aB (fun hb=>?_) (fun hb=>?_)
  ·simp only[Gg,hb,hw,lA,q,xm,bkB,↓reduceIte,EW,simprocAttr];exact hi1 _
  ·simp only[Gg,hb,hw,xm,bkB,Bool.false_eq_true,EW,simprocAttr];exact hi1 _
def ajA{t:Tree}{dep:Int->Nat}(h:bK t dep 0):∀(f:Nat)(ino:Int)(s:Int×AM Bool),(∀n,find t.nodes ino=some n->n.kind=2->13<f+dep ino)->0<f ->
  ag aH 166 [.int .i64 ino,.ptr 0 0,.ptr 1 0,.ptr 2 0,.ptr 3 0] (dC t s)=some (.tuple [],dC t (jj t.nodes f ino s)):=by
 intro f;induction f with
 |zero=>intro ino s _ h0; omega
 |succ f ih =>
  intro ino s hd _;have q1:=Qw t ino h.sz.Aa h.fN
  have hl:=SS (t:=t) (n:=aD t.nodes ino) (f:=f) (k:=[.block 0]) (R:=fun s=>some (.tuple [],dC t s)) (by
    cases hi:find t.nodes ino with
    |none=>simp[aD,hi,Node.zero]
    |some n=>have:=(h.pV _ _ hi).2; simp only[aD,hi,Option.getD_some]; omega) ?_ (fun s e=>by simp only[dC,nu,Gg,an,xm,bkB,EW,simprocAttr]) (aD t.nodes ino).av [] (fO (s.1+(aD t.nodes ino).data.length),s.2) rfl
  ·refine ai ?_;rw[jj];simp only[dC,nu,an,List.cons_append,List.nil_append,List.length_nil] at hl q1;simp only[J2,Gg,dC,nu,ak,an,q1,EW,simprocAttr];exact hl
  ·intro e he s;cases hi:find t.nodes ino with
   |none=>simp[aD,hi,Node.zero] at he
   |some n =>
    simp only[aD,hi,Option.getD_some] at he
    have hk:n.kind=2:=by
     rcases h.kind _ _ hi with h1|h1
     ·rw[(h.file _ _ hi h1).1] at he; cases he
     ·exact h1
    have h1:=hd n hi hk;have h2:=(h.deep _ _ hi hk).1;obtain⟨_,_,e1,_,m,hm,hu⟩:=h.vZ _ _ _ hi he;refine ih e.ino s (fun n' hn' hk'=>?_) (by omega)
    rw[hm] at hn'; cases hn';have:=(h.oq _ _ hm hk' e1).1;rw[hu hk'] at this;omega
def jz(nodes:List Node)(ino:Int):Int×Int :=
 if ((find nodes ino).isSome&&(aD nodes ino).kind==2)=true then (((jj nodes 14 ino (0,[])).2.length:Int),(jj nodes 14 ino (0,[])).1) else (0,0)
def c93{t:Tree}(h:Rt t)(ino:Int):ag aH 93 [aA t,.int .i64 ino] []=some (.tuple [.int .i64 (jz t.nodes ino).1,.int .i64 (jz t.nodes ino).2],[]):=by
 obtain⟨dep,h⟩:=h;refine ai ?_;have q1:=Qw t ino h.sz.Aa h.fN;have q2:=ajA h 14 ino (0,[]) (fun n hn hk=>by omega) (by omega)
 unfold jz;generalize jj t.nodes 14 ino (0,[])=s' at q2 ⊢;simp only[an] at q1;simp only[WZ,E93,aA,ak,q1,an,EW,simprocAttr];refine aJ (fun hb=>?_) (fun hb=>?_)
 ·simp only[hb,E93,EW,simprocAttr];refine aB (fun hc=>?_) (fun hc=>?_)
  ·have q3:=Wj (aD t.nodes ino) q2;simp only[qv,an,uF,ji,List.map_nil] at q3;simp only[hb,hc,q3,E93,mapOf.eq_1,EW,simprocAttr]
  ·simp only[hb,hc,E93,mapOf.eq_1,Bool.and_false,Bool.false_eq_true,EW,simprocAttr]
 ·simp only[hb,E93,mapOf.eq_1,Bool.false_and,Bool.false_eq_true,EW,simprocAttr]
def k93{t:Tree}(h:Rt t)(ino:Int)(M:aj):ar (ag aH) 93 [.agg [au t.nodes,.int .i64 t.next,.int .i64 t.af],.int .i64 ino] M=some (.tuple [.int .i64 (jz t.nodes ino).1,.int .i64 (jz t.nodes ino).2],M) :=
 cO (c93 h ino) M
end
section
def Zl(l:List ba)(o:Int)(b:aM):dK [.cells [a8 l],.cells [.int .i64 o],b] (da [0,1]) [0,1]=some [.cells [a8 l],.cells [.int .i64 o]]:=rfl
def Zm(l:List ba)(o:Int)(b:aM):dK [b,.cells [a8 l],.cells [.int .i64 o]] (da [1,2]) [1,2]=some [.cells [a8 l],.cells [.int .i64 o]]:=rfl
attribute [local irreducible] bS cz fu gK bG kr ag ar aQ aG
abbrev iH(l:List ba):Prop:=l.Pairwise fun a b=>a.ino<b.ino
def vj(l:List ba)(ino:Int):Nat:=fm (fun x=>decide (jf x.ino ino<0)) l
def Fs(l:List ba)(ino:Int):Bool:=j4 (fun x=>jf x.ino ino==0) l (vj l ino)
def tT{l:List ba}(h:iH l)(ino:Int):IC (fun x=>decide (jf x.ino ino<0)) l (vj l ino):=by
 refine zN (h.imp ?_);intro a b hab hb;simp only[decide_eq_true_eq,pA] at hb ⊢;omega
def ajD(l:List ba)(ino:Int)(h:iH l)(hn:l.length<=100000):ag aH 169 [a8 l,.int .i64 ino] []=some (.tuple [.int .i64 (vj l ino),.bool (Fs l ino)],[]):=by
 refine ai ?_;have q:=fun M=>cO (akr l ino _ (tT h ino) hn) M
 simp only[J5,ah4,q,Fs,EW,simprocAttr]
def ad5 l ino h hn:=cP (ajD l ino h hn)
def ajC(l:List ba)(dir o:Int)(h:iH l)(hn:l.length<=100000):ag aH 168 [.int .i64 dir,.ptr 0 0,.ptr 1 0] [.cells [a8 l],.cells [.int .i64 o]] =
  some (.bool ((if Fs l dir=true then dir else o)==0),[.cells [a8 l],.cells [.int .i64 (if Fs l dir=true then dir else o)]]):=by
 refine ai ?_;have q:=ad5 l dir h hn;simp only[J4,Vt,q,EW,simprocAttr];refine aB (fun hb=>?_) (fun hb=>?_)
 ·simp only[Vt,hb,if_true,EW,simprocAttr]
 ·simp only[Vt,hb,Bool.false_eq_true,if_false,EW,simprocAttr]
def xW(nodes:List Node)(l:List ba):Nat->Int->Int
 |0,_=>0
 |f+1,dir=>if Fs l dir=true then dir else if (dir != 1)=true then xW nodes l f (aD nodes dir).up else 0
def SU{t:Tree}{dep:Int->Nat}(ht:bK t dep 0){l:List ba}(hq:iH l)(hn:l.length<=100000){k:List K}{R:Int->Option (ae×aj)}
  (hx:∀o e,kr (ag aH) [] 2 k ⟨.exit 0,e,[.cells [a8 l],.cells [.int .i64 o],.cells (ak t)]⟩=R o) :
  ∀(f:Nat)(dir:Int)(n:Node),find t.nodes dir=some n->n.kind=2->dep dir<f->bS (ag aH) [] 2 k (.loop [1,2,3] R7) [(1,.int .i64 dir),(2,.func 168 [.ptr 0 0,.ptr 1 0]),(3,.ptr 2 0)] [.cells [a8 l],.cells [.int .i64 0],.cells (ak t)] =
   R (xW t.nodes l f dir):=by
 intro f;induction f with
 |zero=>intro dir n _ _ h; omega
 |succ f ih =>
  intro dir n hi hk hd;rw[aC,xW]
  have q0:ar (ag aH) 168 [.int .i64 dir,.ptr 0 0,.ptr 1 0] [.cells [a8 l],.cells [.int .i64 0],.cells (ak t)] =
    some (.bool ((if Fs l dir=true then dir else 0)==0),[.cells [a8 l],.cells [.int .i64 (if Fs l dir=true then dir else 0)],.cells (ak t)]) :=
   eE (ids:=[0,1]) rfl rfl (Zl l 0 _) rfl rfl (ajC l dir 0 hq hn) rfl rfl rfl rfl rfl
  have q1:=Qw t dir ht.sz.Aa ht.fN;have hd1:=(ht.num _ _ hi).1;simp only[an,ak] at q0 q1 hx;simp only[Gh,q0,ak,EW,simprocAttr];cases hb:Fs l dir
  ·simp only[hb,Bool.false_eq_true,if_false]
   by_cases h1:dir=1
   ·subst h1;simp only[Gh,bne_self_eq_false,Bool.false_eq_true,if_false,EW,simprocAttr];exact hx _ _
   ·have h1':(dir != 1)=true:=by simpa using h1
    obtain⟨g1,p,g2,g3⟩:=ht.oq _ _ hi hk h1;have hi':=ih n.up p g2 g3 (by omega)
    simp only[ak] at hi';simp only[aD,hi,Option.getD_some] at q1 ⊢;simp only[Gh,h1',q1,an,EW,simprocAttr];exact hi'
  ·simp only[hb,if_true];have h0:(dir==0)=false:=by simp; omega
   simp only[h0,Gh,EW,simprocAttr];exact hx _ _
def ajB{t:Tree}{dep:Int->Nat}(ht:bK t dep 0){l:List ba}(hq:iH l)(hn:l.length<=100000){dir:Int}{n:Node}(hi:find t.nodes dir=some n)(hk:n.kind=2) :
  ag aH 167 [aA t,.int .i64 dir,.func 168 [.ptr 0 0,.ptr 1 0]] [.cells [a8 l],.cells [.int .i64 0]]=some (.tuple [],[.cells [a8 l],.cells [.int .i64 (xW t.nodes l 13 dir)]]):=by
 refine ai ?_;have hl:=SU ht hq hn (k:=[.block 0]) (R:=fun o=>some (.tuple [],[.cells [a8 l],.cells [.int .i64 o]])) (fun o e=>by simp only[Gh,ak,EW,simprocAttr]) 13 dir n hi hk (by have:=(ht.deep _ _ hi hk).1; omega)
 simp only[ak] at hl;simp only[J3,Gh,aA,ak,EW,simprocAttr];exact hl
def rR(nodes:List Node)(l:List ba)(dir:Int):Int:=xW nodes l 13 dir
def c94{t:Tree}{dep:Int->Nat}(ht:bK t dep 0){l:List ba}(hq:iH l)(hn:l.length<=100000){dir:Int}{n:Node}(hi:find t.nodes dir=some n)(hk:n.kind=2) :
  ag aH 94 [aA t,a8 l,.int .i64 dir] []=some (.int .i64 (rR t.nodes l dir),[]):=by
 refine ai ?_
 have q:ar (ag aH) 167 [.agg (ak t),.int .i64 dir,.func 168 [.ptr 1 0,.ptr 2 0]] [.cells (ak t),.cells [a8 l],.cells [.int .i64 0]] =
   some (.tuple [],[.cells (ak t),.cells [a8 l],.cells [.int .i64 (xW t.nodes l 13 dir)]]) :=
  eE (ids:=[1,2]) rfl rfl (Zm l 0 _) rfl rfl (ajB ht hq hn hi hk) rfl rfl rfl rfl rfl
 simp only[ak] at q;simp only[W0,E94,aA,ak,q,rR,EW,simprocAttr]
def k94{t:Tree}{dep:Int->Nat}(ht:bK t dep 0){l:List ba}(hq:iH l)(hn:l.length<=100000){dir:Int}{n:Node}(hi:find t.nodes dir=some n)(hk:n.kind=2)(M:aj) :
  ar (ag aH) 94 [.agg [au t.nodes,.int .i64 t.next,.int .i64 t.af],a8 l,.int .i64 dir] M=some (.int .i64 (rR t.nodes l dir),M):=cO (c94 ht hq hn hi hk) M
def lJ(t:Tree)(l:List ba)(ino nodes bytes:Int):List ba×Int :=
 if (!(find t.nodes ino).isSome)=true then (l,70)
 else if ((aD t.nodes ino).kind != 2)=true then (l,73)
 else if decide (nodes<0)=true then (if Fs l ino=true then l.eraseIdx (vj l ino) else l,0)
 else if (decide ((jz t.nodes ino).1>nodes)||decide ((jz t.nodes ino).2>bytes))=true then (l,90)
 else if Fs l ino=true then (l.set (vj l ino) ⟨ino,nodes,bytes⟩,0)
 else if decide ((l.length:Int)>=16)=true then (l,76)
 else (l.take (vj l ino)++⟨ino,nodes,bytes⟩::l.drop (vj l ino),0)
def ajk(t:Tree)(l:List ba)(ino nodes bytes:Int)(ht:Rt t)(hq:iH l)(hn:l.length<=16):ag aH 141 [aA t,a8 l,.int .i64 ino,.int .i64 nodes,.int .i64 bytes] []=some (.tuple [a8 (lJ t l ino nodes bytes).1,.int .i64 (lJ t l ino nodes bytes).2],[]):=by
 refine ai ?_;have q1:=Qw t ino ht.small ht.fN;have q2:=ad5 l ino hq (by omega)
 have q3:=k93 ht ino;have hb:=(tT hq ino).le
 have hlt:Fs l ino=true->vj l ino<l.length:=by
  intro h;unfold Fs j4 at h;split at h
  ·rename_i x hx; exact(List.getElem?_eq_some_iff.1 hx).1
  ·cases h
 unfold lJ;generalize jz t.nodes ino=u at q3 ⊢;generalize vj l ino=b at q2 hb hlt ⊢;generalize Fs l ino=e at q2 hlt ⊢;simp only[an] at q1
 by_cases h0:l=[]
 ·have hb0:b=0:=by subst h0; simpa using hb
  have he:e=false:=by
   cases e
   ·rfl
   ·have:=hlt rfl; subst h0; simp at this
  subst he;have p1:=fun M=>wo bz (f:=202) (sz:=3) (bytes:=24) rfl h0 M
  have p2:=fun M=>yc (f:=229) (sz:=3) (bytes:=24) rfl hb0 (.agg [.int .i64 ino,.int .i64 nodes,.int .i64 bytes]) rfl M
  simp only[Bg,Gc,aA,ak,q1,q2,q3,an,EW,simprocAttr]
  repeat' ((first|refine aB (fun hb=>?_) (fun hb=>?_)|refine aJ (fun hb=>?_) (fun hb=>?_)|refine bp (fun hb=>?_) (fun hb=>?_))<;>simp only[hb,EW,Gc,q1,q2,q3,p1,p2,an,simprocAttr])
  all_goals clear q1 q2 q3 p1 p2
  all_goals first|rfl|(simp_all only[iw,↓reduceIte,reduceCtorEq,bne_self_eq_false]; done)|(simp_all only[iw,↓reduceIte,reduceCtorEq,bne_self_eq_false]; rfl)
 ·have hb0:=hb;have p1:=fun M=>vr bz (f:=202) (sz:=3) (bytes:=24) rfl (fun _=>rfl) (by omega) h0 (by omega) M
  have p2:=fun M=>BD bz (f:=229) (sz:=3) (bytes:=24) (v:=0) (id:=3) rfl (by omega) hb (by omega) (.agg [.int .i64 ino,.int .i64 nodes,.int .i64 bytes]) rfl M
  cases he:e
  ·subst he;simp only[Bg,Gc,aA,ak,q1,q2,q3,an,EW,simprocAttr]
   repeat' ((first|refine aB (fun hb=>?_) (fun hb=>?_)|refine aJ (fun hb=>?_) (fun hb=>?_)|refine bp (fun hb=>?_) (fun hb=>?_))<;>simp only[hb,EW,Gc,q1,q2,q3,p1,p2,an,simprocAttr])
   all_goals clear q1 q2 q3 p1 p2
   all_goals first|rfl|(simp_all only[iw,↓reduceIte,reduceCtorEq,bne_self_eq_false]; done)|(simp_all only[iw,↓reduceIte,reduceCtorEq,bne_self_eq_false]; rfl)|(simp_all only[iw,↓reduceIte,reduceCtorEq,bne_self_eq_false]; exact congrArg (fun z=>some (ae.tuple [ae.slice .sh z,ae.int .i64 0],([]:aj))) (Fq bz hb0 ⟨ino,nodes,bytes⟩))
  ·subst he;have p3:=fun M=>yb bz (f:=228) (sz:=3) (v:=0) (id:=2) rfl (hlt rfl) (by omega) M
   have hbl:=hlt rfl;have hx:=List.getElem?_eq_getElem hbl;generalize l[b]=x at hx;have h1:((b:Int)<((l.length-0:Nat):Int))=True:=by simp; omega
   have hs:dA (l.map bz) b (putCells (bz x) 0 [.int .i64 ino,.int .i64 nodes,.int .i64 bytes])=(l.set b ⟨ino,nodes,bytes⟩).map bz:=by
    rw[cG,List.map_set]; rfl
   have ht2:List.take l.length ((l.set b ⟨ino,nodes,bytes⟩).map bz)=(l.set b ⟨ino,nodes,bytes⟩).map bz:=List.take_of_length_le (by simp)
   have hw:IntKind.i64.wrap ((b:Int)+1)=((b+1:Nat):Int):=by have:=hlt rfl; rw[cL (by omega) (by omega)]; rfl
   simp only[Bg,Gc,aA,ak,q1,q2,q3,hw,an,EW,simprocAttr]
   repeat' ((first|refine aB (fun hb=>?_) (fun hb=>?_)|refine aJ (fun hb=>?_) (fun hb=>?_)|refine bp (fun hb=>?_) (fun hb=>?_))<;>simp only[hb,EW,Gc,q1,q2,q3,p1,p2,p3,hw,h1,hx,hs,ht2,an,simprocAttr])
   all_goals clear q1 q2 q3 p1 p2 p3
   all_goals first|rfl|(simp_all only[iw,↓reduceIte,reduceCtorEq,bne_self_eq_false]; done)|(simp_all only[iw,↓reduceIte,reduceCtorEq,bne_self_eq_false]; rfl)
end
section
attribute [local irreducible] bS cz fu gK bG kr ag ar aQ aG
def nc{α:Type}(key:α->Int)(l:List α)(k:Int):Nat:=fm (fun x=>decide (jf (key x) k<0)) l
def Ly{α:Type}(key:α->Int)(l:List α)(k:Int):Bool:=j4 (fun x=>jf (key x) k==0) l (nc key l k)
def FH{α:Type}{key:α->Int}{l:List α}(h:l.Pairwise fun a b=>key a<key b)(k:Int):IC (fun x=>decide (jf (key x) k<0)) l (nc key l k):=by
 refine zN (h.imp ?_);intro a b hab hb;simp only[decide_eq_true_eq,pA] at hb ⊢;omega
def IT{α:Type}{key:α->Int}{l:List α}(h:l.Pairwise fun a b=>key a<key b)(k:Int) :
  (Ly key l k=true/\∃n,l[nc key l k]?=some n/\key n=k/\l.find? (fun x=>key x==k)=some n)\/(Ly key l k=false/\l.find? (fun x=>key x==k)=none):=by
 obtain⟨l1,l2⟩:=FH h k;simp only[decide_eq_true_eq,pA] at l2;cases hf:l.find? (fun x=>key x==k) with
 |some n =>
  left;have hm:=List.mem_of_find?_eq_some hf;have he:key n=k:=by simpa using List.find?_some hf
  obtain⟨i,hi⟩:=List.getElem?_of_mem hm;have hib:¬i<nc key l k:=fun hc=>by have:=(l2 i n hi).2 hc; omega
  have hb:nc key l k<l.length:=by have:=(List.getElem?_eq_some_iff.1 hi).1; omega
  have hx:=List.getElem?_eq_getElem hb;have hnl:¬key l[nc key l k]<k:=fun hc=>Nat.lt_irrefl _ ((l2 _ _ hx).1 hc)
  have hie:i=nc key l k:=by
   rcases Nat.lt_or_ge (nc key l k) i with hlt|hge
   ·have hil:=(List.getElem?_eq_some_iff.1 hi).1;have h3:=List.pairwise_iff_getElem.1 h _ _ hb hil hlt;have h4:l[i]=n:=by rw[List.getElem?_eq_getElem hil] at hi; injection hi
    rw[h4,he] at h3;exact absurd h3 hnl
   ·omega
  subst hie;exact⟨by unfold Ly j4; rw[hi]; simp[he,zn],n,hi,he,rfl⟩
 |none =>
  right;refine⟨?_,rfl⟩;unfold Ly j4;split
  ·rename_i n hn;have:=List.find?_eq_none.1 hf n (List.mem_of_getElem? hn)
   show(jf (key n) k==0)=false
   rw[zn];simpa using this
  ·rfl
def akh(x y:Node)(hx:x.av.length<=100000):ag aH 225 [aF x,aF y] []=some (.bool (decide (x=y)),[]):=by
 have hd:decide (x=y)=(x.ino==y.ino&&(x.kind==y.kind&&(x.bE==y.bE&&(x.up==y.up&&(x.data==y.data&&decide (x.av=y.av)))))):=by
  obtain⟨a,b,c,d,e,f⟩:=x;obtain⟨a',b',c',d',e',f'⟩:=y;simp only[Node.mk.injEq]
  by_cases h1:a=a'<;>by_cases h2:b=b'<;>by_cases h3:c=c'<;>by_cases h4:d=d'<;>by_cases h5:e=e'<;>by_cases h6:f=f'<;>simp[h1,h2,h3,h4,h5,h6]
 refine ai ?_;have q:=fun M=>cO (acA x.av y.av hx) M
 rw[hd];simp only[KI,aaE,aF,an,q,oI,EW,simprocAttr]
 repeat' ((first|refine aB (fun hb=>?_) (fun hb=>?_)|refine aJ (fun hb=>?_) (fun hb=>?_)|refine bp (fun hb=>?_) (fun hb=>?_))<;>simp only[hb,EW,aaE,q,oI,simprocAttr])
 all_goals (simp only[iw,↓reduceIte,reduceCtorEq,bne_self_eq_false]; done)
def aeo(x y:Node)(hx:x.av.length<=100000)(M:aj):ar (ag aH) 225 [.agg (an x),.agg (an y)] M=some (.bool (decide (x=y)),M):=cO (akh x y hx) M
def Uo(nodes:List Node)(ino:Int):Int:=if Ly Node.ino nodes ino=true then (nc Node.ino nodes ino:Int) else -1
def c85(nodes:List Node)(ino:Int)(h:gr nodes)(hn:nodes.length<=100000):ag aH 85 [au nodes,.int .i64 ino] []=some (.int .i64 (Uo nodes ino),[]):=by
 refine ai ?_;have q:∀M,ar (ag aH) 160 [au nodes,.int .i64 ino,.func 161 []] M=some (.tuple [.int .i64 (nc Node.ino nodes ino),.bool (Ly Node.ino nodes ino)],M):=fun M=>cO (acG nodes ino _ (FH h ino) hn) M
 simp only[WS,E85,q,Uo,EW,simprocAttr];refine aB (fun hb=>?_) (fun hb=>?_)
 ·have hb':Ly Node.ino nodes ino=false:=by simpa using hb
  simp only[E85,hb',Bool.false_eq_true,if_false,EW,simprocAttr]
 ·have hb':Ly Node.ino nodes ino=true:=by simpa using hb
  simp only[E85,hb',if_true,EW,simprocAttr]
def k85 nodes ino h hn:=cP (c85 nodes ino h hn)
def sP(l:List eX)(a b:Int):Bool:=l.any (mL a b)
def ajr(l:List eX)(a b:Int)(hn:l.length<=100000):ag aH 152 [eN l,.int .i64 a,.int .i64 b] []=some (.bool (sP l a b),[]):=by
 refine ai ?_
 have q:ar (ag aH) 237 [eN l,.func 238 [.ptr 0 0,.ptr 1 0]] [.cells [.int .i64 a],.cells [.int .i64 b]]=some (.bool (sP l a b),[.cells [.int .i64 a],.cells [.int .i64 b]]) :=
  eE (ids:=[0,1]) rfl rfl (Ek a b) rfl rfl (acS l a b hn) rfl rfl rfl rfl rfl
 simp only[JW,ah1,q,EW,simprocAttr]
def ad3 l a b hn:=cP (ajr l a b hn)
def k41(a b:Tree)(ha:Small a)(M:aj):ar (ag aH) 41 [.agg [au a.nodes,.int .i64 a.next,.int .i64 a.af],.agg [au b.nodes,.int .i64 b.next,.int .i64 b.af]] M=some (.bool (decide (a=b)),M):=cO (c41 a b ha) M
def jM(t:Tree)(taken:List eX)(tick:Int):List Node->List Int->List iy
 |n::r,x::y=>(if ((decide (Uo t.nodes n.ino<0) || !decide (n=aD t.nodes n.ino))&&sP taken x tick)=true then [⟨x,tick,n⟩] else [])++jM t taken tick r y
 |_,_=>[]
def xd(s:c8)(tick:Int)(n:Node):Int :=
 if (decide (0<=Uo s.now.nodes n.ino)&&decide (n=aD s.now.nodes n.ino))=true then s.since.getD (nc Node.ino s.now.nodes n.ino) 0 else tick
def mj(s:c8)(t:Tree):c8:=if decide (s.now=t)=true then s else
 ⟨t,fO (s.tick+1),t.nodes.map (xd s (fO (s.tick+1))),s.bq++jM t s.taken (fO (s.tick+1)) s.now.nodes s.since,s.taken,s.next⟩
def EJ{nodes:List Node}(h:gr nodes)(ino:Int) :
  (Ly Node.ino nodes ino=true/\Uo nodes ino=(nc Node.ino nodes ino:Int)/\nodes[nc Node.ino nodes ino]?=some (aD nodes ino)/\find nodes ino=some (aD nodes ino))\/(Ly Node.ino nodes ino=false/\Uo nodes ino = -1/\find nodes ino=none):=by
 rcases IT (key:=Node.ino) h ino with ⟨h1,n,h2,_,h4⟩|⟨h1,h2⟩
 ·left;have h4':find nodes ino=some n:=h4;have h5:aD nodes ino=n:=by simp[aD,h4']
  exact⟨h1,by simp[Uo,h1],by rw[h5]; exact h2,by rw[h5]; exact h4'⟩
 ·right;exact⟨h1,by simp[Uo,h1],h2⟩
def pW(s:c8)(t:Tree)(P:List iy)(S:List Int):aj :=
 [.cells (aE s),.cells (ak t),.cells [.slice .c0 [],.int .i64 0,.int .i64 0,.int .i64 0,.slice .c0 [],.slice .c0 [],.slice .c0 [],.int .i64 0],.tick 8 P.length,
  .cells [au t.nodes,.int .i64 t.next,.int .i64 t.af,.int .i64 (fO (s.tick+1)),.slice (.own 5) (S.map fF),.slice (.own 3) (P.map eR),eN s.taken,.int .i64 s.next],.tick 1 S.length]
def Ot{s:c8}{t:Tree}(hs:jv s.now)(hz:Sz 200 s.now)(ht:jv t)(hzt:Sz 200 t)(hk:s.taken.length<=100000)(hl:s.since.length=s.now.nodes.length){k:List K}{R:List iy->Option (ae×aj)}
  (hx:∀P e,kr (ag aH) [.bl 4 8] 0 k ⟨.exit 0,(2,.ptr 0 0)::(3,.ptr 1 0)::(4,.ptr 2 0)::(5,.ptr 4 0)::e,pW s t P []⟩=R P) :
  ∀(l pre:List Node)(y ypre:List Int)(P:List iy),s.now.nodes=pre++l->s.since=ypre++y->ypre.length=pre.length->P.length<=100000+pre.length ->
   bS (ag aH) [.bl 4 8] 0 k (.loop [2,3,4,5,32,33,34] R1) [(2,.ptr 0 0),(3,.ptr 1 0),(4,.ptr 2 0),(5,.ptr 4 0),(32,au s.now.nodes),(33,.int .i64 s.now.nodes.length),(34,.int .i64 pre.length)] (pW s t P []) =
   R (P++jM t s.taken (fO (s.tick+1)) l y):=by
 intro l;induction l with
 |nil =>
  intro pre y ypre P h hy hyl hP;rw[aC];have hy0:y=[]:=by have:=congrArg List.length h; have h2:=congrArg List.length hy; simp at this h2; exact List.length_eq_zero_iff.1 (by omega)
  subst hy0;simp only[pW,zc,cQ h,jM,EW,simprocAttr] at hx ⊢;exact hx _ _
 |cons n rest ih =>
  intro pre y ypre P h hy hyl hP;rw[aC];have hn200:=hz.nodes;have hlen:pre.length+1<=200:=by rw[h] at hn200; simp at hn200; omega
  have hw:=ny pre n;cases y with
  |nil=>have h1:=congrArg List.length h; have h2:=congrArg List.length hy; simp at h1 h2; omega
  |cons x y =>
   have hxa:s.since[pre.length]?=some x:=by rw[hy,<-hyl]; simp
   have hi1:=ih (pre++[n]) y (ypre++[x]) P (by rw[h]; simp) (by rw[hy]; simp) (by simp[hyl]) (by simp; omega)
   have hi2:=ih (pre++[n]) y (ypre++[x]) (P++[⟨x,fO (s.tick+1),n⟩]) (by rw[h]; simp) (by rw[hy]; simp) (by simp[hyl]) (by simp; omega)
   have q1:=k85 t.nodes n.ino ht.hV (by have:=hzt.nodes; omega)
   have q2:=aeo n (aD t.nodes n.ino) (by have:=hz.av n (by rw[h]; simp); omega)
   have q3:=ad3 s.taken x (fO (s.tick+1)) hk;have r1:aP (P.length+1) 96=True:=jx;rw[jM];simp only[pW,an,ak,aE,List.length_append,List.length_cons,List.length_nil,Nat.zero_add,List.map_append,List.map_cons,List.map_nil] at hi1 hi2 q1 q2 q3;rcases EJ ht.hV n.ino with ⟨_,a2,a3,a4⟩|⟨_,a2,a4⟩
   ·have ha0:((nc Node.ino t.nodes n.ino:Int)<0)=False:=by simp
    generalize decide (n=aD t.nodes n.ino)=e1 at q2 ⊢;generalize sP s.taken x (fO (s.tick+1))=e2 at q3 ⊢;cases e1<;>cases e2<;>simp only[pW,zc,cv h,bT h,an,ak,aE,q1,q2,q3,a2,a3,ha0,hxa,hw,r1,EW,simprocAttr]
    ·simpa using hi1
    ·simpa[eR,fT,an] using hi2
    ·simpa using hi1
    ·simpa using hi1
   ·have ha0:((-1:Int)<0)=True:=by simp
    generalize decide (n=aD t.nodes n.ino)=e1 at q2 ⊢;generalize sP s.taken x (fO (s.tick+1))=e2 at q3 ⊢;cases e2<;>simp only[pW,zc,cv h,bT h,an,ak,aE,q1,q2,q3,a2,ha0,hxa,hw,r1,EW,simprocAttr]
    ·simpa using hi1
    ·simpa[eR,fT,an] using hi2
def Ou{s:c8}{t:Tree}(hs:jv s.now)(hz:Sz 200 s.now)(hzt:Sz 200 t)(hl:s.since.length=s.now.nodes.length)(P:List iy){k:List K}{R:List Int->Option (ae×aj)}
  (hx:∀S e,kr (ag aH) [.bl 4 8] 0 k ⟨.exit 2,(2,.ptr 0 0)::(4,.ptr 2 0)::(5,.ptr 4 0)::e,pW s t P S⟩=R S) :
  ∀(l pre:List Node)(S:List Int),t.nodes=pre++l->S.length<=100000+pre.length ->
   bS (ag aH) [.bl 4 8] 0 k (.loop [2,4,5,84,85,86] R2) [(2,.ptr 0 0),(4,.ptr 2 0),(5,.ptr 4 0),(84,au t.nodes),(85,.int .i64 t.nodes.length),(86,.int .i64 pre.length)] (pW s t P S) =
   R (S++l.map (xd s (fO (s.tick+1)))):=by
 intro l;induction l with
 |nil =>
  intro pre S h hS;rw[aC];simp only[pW,zc,cQ h,EW,simprocAttr] at hx ⊢;exact hx _ _
 |cons n rest ih =>
  intro pre S h hS;rw[aC];have hn200:=hzt.nodes;have hlen:pre.length+1<=200:=by rw[h] at hn200; simp at hn200; omega
  have hw:=ny pre n;have hi1:=ih (pre++[n]) (S++[xd s (fO (s.tick+1)) n]) (by rw[h]; simp) (by simp; omega)
  have q1:=k85 s.now.nodes n.ino hs.hV (by have:=hz.nodes; omega)
  have q2:=aeo n (aD s.now.nodes n.ino) (by have:=hzt.av n (by rw[h]; simp); omega)
  have r1:aP (S.length+1) 8=True:=jx;rw[List.map_cons];unfold xd at hi1 ⊢;simp only[pW,an,ak,aE,List.length_append,List.length_cons,List.length_nil,Nat.zero_add,List.map_append,List.map_cons,List.map_nil] at hi1 q1 q2;rcases EJ hs.hV n.ino with ⟨_,a2,a3,a4⟩|⟨_,a2,a4⟩
  ·have ha0:(0<=(nc Node.ino s.now.nodes n.ino:Int))=True:=by simp
   have hlt:nc Node.ino s.now.nodes n.ino<s.since.length:=by rw[hl]; exact(List.getElem?_eq_some_iff.1 a3).1
   have hxa:=List.getElem?_eq_getElem hlt;have hxd:s.since.getD (nc Node.ino s.now.nodes n.ino) 0=s.since[nc Node.ino s.now.nodes n.ino]:=by simp[List.getD,hxa]
   rw[hxd] at hi1 ⊢;generalize s.since[nc Node.ino s.now.nodes n.ino]=x at hxa hi1 ⊢;generalize decide (n=aD s.now.nodes n.ino)=e1 at q2 hi1 ⊢;rw[a2] at hi1 ⊢;cases e1<;>simp only[pW,zc,cv h,bT h,an,ak,aE,q1,q2,a2,a3,ha0,hxa,hw,r1,lR,EW,simprocAttr]
   ·simpa using hi1
   ·simpa using hi1
  ·have ha0:(0<=(-1:Int))=False:=by simp
   rw[a2] at hi1 ⊢;simp only[pW,zc,cv h,bT h,an,ak,aE,q1,q2,a2,ha0,hw,r1,lR,EW,simprocAttr];simpa using hi1
def Lm{α:Type}(enc:α->ae){f sz bytes:Nat}(hp:aH.fZ f=some (jR sz bytes))(hw:∀a,(enc a).cells.length=sz)(hb:bytes<=1000){l:List α}(hn:l.length<=100000)(M:aj) :
  ag aH f [.slice .sh (l.map enc)] M=some (.slice (.own M.length) (l.map enc),M++[.tick sz l.length]):=by
 refine bR (g:=jR sz bytes) hp ?_;have hw':wid (l.map enc) sz:=by have:=kQ enc sz hw l; simpa using this
 have hr:aP (l.map enc).length bytes:=by have:=jn (a:=l.length) (b:=bytes) (by omega) (by omega); simpa using this
 unfold jR;simp only[];rw[bo ⟨hw',hr⟩];rw[List.length_map]
def w6{α:Type}(enc:α->ae){f sz bytes:Nat}(hp:aH.fZ f=some (jR sz bytes))(hw:∀a,(enc a).cells.length=sz)(hb:bytes<=1000){l:List α}(hn:l.length<=100000)(M:aj) :
  ud (ag aH) f [.slice .sh (l.map enc)] M=some (.slice (.own M.length) (l.map enc),M++[.tick sz l.length]):=by
 unfold ud;rw[if_pos ⟨rfl,rfl⟩,Lm enc hp hw hb hn,aI];rfl
def aji(s:c8)(t:Tree)(hs:jv s.now)(hz:Sz 200 s.now)(ht:jv t)(hzt:Sz 200 t)(hk:s.taken.length<=100000)(hl:s.since.length=s.now.nodes.length)(hp:s.bq.length<=100000) :
  ag aH 137 [iL s,aA t] []=some (iL (mj s t),[]):=by
 refine ai ?_;have q1:=k41 s.now t (hz.small (by omega))
 have p1:=fun M=>w6 eR (f:=224) (sz:=8) (bytes:=96) rfl (fun _=>rfl) (by omega) hp M
 have l2:=fun P=>Ou hs hz hzt hl P (k:=[.block 2,.seq TP]) (R:=fun S=>some (.agg [au t.nodes,.int .i64 t.next,.int .i64 t.af,.int .i64 (fO (s.tick+1)),oL S,nJ P,eN s.taken,.int .i64 s.next],[]))
  (fun S e=>by simp only[pW,aE,ak,zc,EW,simprocAttr]) t.nodes [] [] rfl (by simp)
 have l1:=Ot hs hz ht hzt hk hl (k:=[.block 0,.seq TQ]) (R:=fun P=>some (.agg [au t.nodes,.int .i64 t.next,.int .i64 t.af,.int .i64 (fO (s.tick+1)),oL (t.nodes.map (xd s (fO (s.tick+1)))),nJ P,eN s.taken,.int .i64 s.next],[]))
  (fun P e=>by
   have:=l2 P;simp only[pW,aE,ak,List.length_nil,List.nil_append] at this;simp only[pW,aE,ak,zc,EW,simprocAttr];exact this) s.now.nodes [] s.since [] s.bq rfl rfl rfl (by simpa using hp)
 unfold mj;generalize decide (s.now=t)=e1 at q1 ⊢;simp only[pW,aE,ak,List.length_nil] at l1;cases e1<;>simp only[JQ,zc,iL,aE,aA,ak,q1,p1,or_false,EW,simprocAttr]
 exact l1
end
section
def rL{C:bL}{f g p:Nat}{xs:List ae}{r:ae}{M:aj}{c:ae}(hM:nth M p=some (.cells [c]))(h:C f [.slice .sh xs,.func g [.ptr 0 0]] [.cells [c]]=some (r,[.cells [c]]))(h3:r.oN=true)(h5:r.vm (px [p])=r)
  (h6:c.n9&&c.fP.isEmpty=true) (h8:∀ρ,c.kK ρ=c:=by intro ρ; rfl):ar C f [.slice .sh xs,.func g [.ptr p 0]] M=some (r,M):=by
 simp only[Bool.and_eq_true,List.isEmpty_iff,decide_eq_true_eq] at h6;obtain⟨h6,h7⟩:=h6;have hids:[ae.slice .sh xs,.func g [.ptr p 0]].flatMap ae.ids=[p]:=rfl;have hi:iU M [p]=[]:=by simp[iU,hM,aM.ids,h7]
 have e0:eG M [p]=[p]:=by simp[eG,hi,ef]
 have e1:reach M [p]=[p]:=by
  have ea:ef [] [p]=[p]:=rfl;simp only[reach,ea,e0]
 have hfl:[ae.slice .sh xs,.func g [.ptr p 0]].all ae.flat=true:=rfl;unfold ar;rw[if_pos hfl,hids,e1];have hpk:dK M (da [p]) [p]=some [.cells [c]]:=by simp[dK,hM,aM.flat,h6,aM.iE,h8]
 rw[hpk];simp only[aI];rw[if_pos e0]
 have hrn:[ae.slice .sh xs,.func g [.ptr p 0]].map (ae.iE (da [p]))=[.slice .sh xs,.func g [.ptr 0 0]]:=by
  simp[ae.iE,ae.kK,ae.kJ,da]
 rw[hrn,h];simp only[aI];rw[if_pos ⟨by trivial,h3,by simp[aM.flat,h6]⟩,h5]
 simp only[eW,aM.iE,List.map_cons,List.map_nil,h8];rw[gN hM]
attribute [local irreducible] bS cz fu gK bG kr ag ar aQ aG
def ni(id:Int)(x:eX):Bool:=x.id != id
def sQ(tk:List eX)(p:iy):Bool:=sP tk p.dZ p.xH
def LA(n:eX):(cS n).all ae.dp=true:=rfl
def Pw(n:eX):(cS n).all ae.plainCell=true:=rfl
def Pv(n:iy):(fT n).all ae.plainCell=true:=rfl
def Lz(n:iy):(fT n).all ae.dp=true:=rfl
def takeN(s:c8)(ino:Int):c8×Int×Int :=
 if (!(find s.now.nodes ino).isSome)=true then (s,0,70)
 else if ((aD s.now.nodes ino).kind != 2)=true then (s,0,73)
 else if (decide ((s.taken.length:Int)>=16)||decide (s.next>=1099511627776))=true then (s,0,76)
 else (⟨s.now,s.tick,s.since,s.bq,s.taken++[⟨s.next,ino,s.tick⟩],fO (s.next+1)⟩,s.next,0)
def ajl(s:c8)(ino:Int)(hz:Small s.now)(hs:jv s.now)(hk:s.taken.length<=16):ag aH 142 [iL s,.int .i64 ino] []=some (.tuple [iL (takeN s ino).1,.int .i64 (takeN s ino).2.1,.int .i64 (takeN s ino).2.2],[]):=by
 refine ai ?_;have q1:=Qw s.now ino hz hs;have p1:=fun M=>w6 eA (f:=230) (sz:=3) (bytes:=24) rfl (fun _=>rfl) (by omega) (l:=s.taken) (by omega) M
 have r1:aP (s.taken.length+1) 24=True:=jx;unfold takeN;simp only[an] at q1;simp only[JR,aat,iL,aE,q1,an,EW,simprocAttr]
 repeat' ((first|refine aB (fun hb=>?_) (fun hb=>?_)|refine aJ (fun hb=>?_) (fun hb=>?_)|refine bp (fun hb=>?_) (fun hb=>?_))<;>simp only[hb,EW,aat,q1,p1,r1,or_false,an,simprocAttr])
 all_goals clear q1 p1
 all_goals first|rfl|(simp_all only[iw,↓reduceIte,reduceCtorEq,bne_self_eq_false]; done)|(simp_all only[iw,↓reduceIte,reduceCtorEq,bne_self_eq_false,aE]; rfl)|(simp_all only[iw,↓reduceIte,reduceCtorEq,bne_self_eq_false,aE,eN,List.map_append,List.map_cons,List.map_nil]; rfl)
def alm(s:c8)(ino:Int)(hz:Small s.now)(hs:jv s.now)(hk:s.taken.length<=16)(M:aj):ar (ag aH) 142 [.agg (aE s),.int .i64 ino] M=some (.tuple [.agg (aE (takeN s ino).1),.int .i64 (takeN s ino).2.1,.int .i64 (takeN s ino).2.2],M) :=
 cO (ajl s ino hz hs hk) M
def akl(x:eX)(id:Int):ag aH 233 [eA x,.ptr 0 0] [.cells [.int .i64 id]]=some (.bool (ni id x),[.cells [.int .i64 id]]):=by
 refine ai ?_;simp only[ni,KM,aih,eA,cS,EW,simprocAttr]
def akn(p:iy)(tk:List eX)(hk:tk.length<=100000):ag aH 235 [eR p,.ptr 0 0] [.cells [eN tk]]=some (.bool (sQ tk p),[.cells [eN tk]]):=by
 refine ai ?_;unfold sQ;have q:=ad3 tk p.dZ p.xH hk;simp only[KQ,aii,eR,fT,an,q,EW,simprocAttr]
def S8{xs:List eX}{id:Int}  (hn:xs.length<=100000){k:List K}{R:List eX->Option (ae×aj)}
  (hx:∀(out:List eX) e,kr (ag aH) [.tmp 4] 1 k ⟨.exit 0,(1,.func 233 [.ptr 0 0])::(5,.slice (.own 1) (out.map eA))::e,[.cells [.int .i64 id],.tick 3 out.length]⟩=R out) :
  ∀(l pre out:List eX),xs=pre++l->out.length<=pre.length->bS (ag aH) [.tmp 4] 1 k (.loop [1,5,8,9,10] Sr) [(1,.func 233 [.ptr 0 0]),(5,.slice (.own 1) (out.map eA)),(8,.slice .sh (xs.map eA)),(9,.int .i64 xs.length),(10,.int .i64 pre.length)] [.cells [.int .i64 id],.tick 3 out.length] =
   R (out++l.filter (ni id)):=by
 intro l;induction l with
 |nil =>
  intro pre out h ho;rw[aC];simp only[QJ,cQ h,List.filter_nil,EW,simprocAttr];exact hx _ _
 |cons n rest ih =>
  intro pre out h ho;rw[aC];have hlen:pre.length+1<=100000:=by rw[h] at hn; simp at hn; omega
  have hw:=ny pre n;have hi1:=ih (pre++[n]) out (by rw[h]; simp) (by simp; omega)
  have hi2:=ih (pre++[n]) (out++[n]) (by rw[h]; simp) (by simp; omega)
  simp only[List.length_append,List.length_cons,List.length_nil,Nat.zero_add,List.map_append,List.map_cons,List.map_nil] at hi1 hi2;have r1:aP (out.length+1) 24=True:=jx
  have q1:∀M,nth M 0=some (.cells [.int .i64 id])->ar (ag aH) 233 [.agg (cS n),.ptr 0 0] M=some (.bool ((ni id) n),M) :=
   fun M hM=>pz (f:=233) (p:=0) (vs:=[.agg (cS n)]) hM (akl n id) rfl rfl rfl rfl rfl rfl rfl rfl rfl
  rw[List.filter_cons];generalize (ni id) n=e at q1 ⊢;cases e<;>simp only[QJ,cv h,bT h,q1,hw,r1,LA,Lz,Pw,Pv,if_true,Bool.false_eq_true,if_false,EW,simprocAttr]
  ·exact hi1
  ·simpa[eA] using hi2
def akk(xs:List eX)(id:Int)  (hn:xs.length<=100000):ag aH 232 [.slice .sh (xs.map eA),.func 233 [.ptr 0 0]] [.cells [.int .i64 id]]=some (.slice .sh ((xs.filter (ni id)).map eA),[.cells [.int .i64 id]]):=by
 refine ai ?_;simp only[KL,QJ,EW,simprocAttr];exact S8  hn (R:=fun out=>some (.slice .sh (out.map eA),[.cells [.int .i64 id]])) (fun out e=>by simp only[QJ,EW,simprocAttr]) xs [] [] rfl (Nat.le_refl _)
def S9{xs:List iy}{tk:List eX}(hk:tk.length<=100000)(hn:xs.length<=100000){k:List K}{R:List iy->Option (ae×aj)}
  (hx:∀(out:List iy) e,kr (ag aH) [.tmp 4] 1 k ⟨.exit 0,(1,.func 235 [.ptr 0 0])::(5,.slice (.own 1) (out.map eR))::e,[.cells [eN tk],.tick 8 out.length]⟩=R out) :
  ∀(l pre out:List iy),xs=pre++l->out.length<=pre.length->bS (ag aH) [.tmp 4] 1 k (.loop [1,5,8,9,10] Ss) [(1,.func 235 [.ptr 0 0]),(5,.slice (.own 1) (out.map eR)),(8,.slice .sh (xs.map eR)),(9,.int .i64 xs.length),(10,.int .i64 pre.length)] [.cells [eN tk],.tick 8 out.length] =
   R (out++l.filter (sQ tk)):=by
 intro l;induction l with
 |nil =>
  intro pre out h ho;rw[aC];simp only[QK,cQ h,List.filter_nil,EW,simprocAttr];exact hx _ _
 |cons n rest ih =>
  intro pre out h ho;rw[aC];have hlen:pre.length+1<=100000:=by rw[h] at hn; simp at hn; omega
  have hw:=ny pre n;have hi1:=ih (pre++[n]) out (by rw[h]; simp) (by simp; omega)
  have hi2:=ih (pre++[n]) (out++[n]) (by rw[h]; simp) (by simp; omega)
  simp only[List.length_append,List.length_cons,List.length_nil,Nat.zero_add,List.map_append,List.map_cons,List.map_nil] at hi1 hi2;have r1:aP (out.length+1) 96=True:=jx
  have q1:∀M,nth M 0=some (.cells [eN tk])->ar (ag aH) 235 [.agg (fT n),.ptr 0 0] M=some (.bool ((sQ tk) n),M) :=
   fun M hM=>pz (f:=235) (p:=0) (vs:=[.agg (fT n)]) hM (akn n tk hk) rfl rfl rfl rfl rfl rfl rfl rfl rfl
  rw[List.filter_cons];generalize (sQ tk) n=e at q1 ⊢;cases e<;>simp only[QK,cv h,bT h,q1,hw,r1,LA,Lz,Pw,Pv,if_true,Bool.false_eq_true,if_false,EW,simprocAttr]
  ·exact hi1
  ·simpa[eR] using hi2
def akm(xs:List iy)(tk:List eX)(hk:tk.length<=100000)(hn:xs.length<=100000):ag aH 234 [.slice .sh (xs.map eR),.func 235 [.ptr 0 0]] [.cells [eN tk]]=some (.slice .sh ((xs.filter (sQ tk)).map eR),[.cells [eN tk]]):=by
 refine ai ?_;simp only[KN,QK,EW,simprocAttr];exact S9 hk hn (R:=fun out=>some (.slice .sh (out.map eR),[.cells [eN tk]])) (fun out e=>by simp only[QK,EW,simprocAttr]) xs [] [] rfl (Nat.le_refl _)
def p9(s:c8)(id:Int):c8×Int :=
 if (((s.taken.filter (ni id)).length:Int)==(s.taken.length:Int))=true then (s,100)
 else (⟨s.now,s.tick,s.since,s.bq.filter (sQ (s.taken.filter (ni id))),s.taken.filter (ni id),s.next⟩,0)
def ajp(s:c8)(id:Int)(hk:s.taken.length<=100000)(hp:s.bq.length<=100000):ag aH 147 [iL s,.int .i64 id] []=some (.tuple [iL (p9 s id).1,.int .i64 (p9 s id).2],[]):=by
 refine ai ?_;have hf:(s.taken.filter (ni id)).length<=100000:=Nat.le_trans (List.length_filter_le _ _) hk
 have q1:∀M,nth M 1=some (.cells [.int .i64 id])->ar (ag aH) 232 [eN s.taken,.func 233 [.ptr 1 0]] M=some (eN (s.taken.filter (ni id)),M):=by
  intro M hM;exact rL hM (akk s.taken id hk) rfl rfl rfl
 unfold p9;generalize (s.taken.filter (ni id))=tk at q1 hf ⊢
 have q2:∀M,nth M 3=some (.cells [eN tk])->ar (ag aH) 234 [nJ s.bq,.func 235 [.ptr 3 0]] M=some (nJ (s.bq.filter (sQ tk)),M):=by
  intro M hM;exact rL hM (akm s.bq tk hf hp) rfl rfl rfl
 simp only[JU,aau,iL,aE,q1,EW,simprocAttr]
 repeat' ((first|refine aB (fun hb=>?_) (fun hb=>?_)|refine aJ (fun hb=>?_) (fun hb=>?_)|refine bp (fun hb=>?_) (fun hb=>?_))<;>simp only[hb,EW,aau,q1,q2,simprocAttr])
 all_goals clear q1 q2
 all_goals first|rfl|(simp_all only[iw,↓reduceIte,reduceCtorEq,bne_self_eq_false]; done)|(simp_all only[iw,↓reduceIte,reduceCtorEq,bne_self_eq_false,aE]; rfl)
def alp(s:c8)(id:Int)(hk:s.taken.length<=100000)(hp:s.bq.length<=100000)(M:aj):ar (ag aH) 147 [.agg (aE s),.int .i64 id] M=some (.tuple [.agg (aE (p9 s id).1),.int .i64 (p9 s id).2],M) :=
 cO (ajp s id hk hp) M
def c37(t:Tree)(ht:t.nodes.length<=100000):ag aH 37 [aA t] []=some (iL ⟨t,0,List.replicate t.nodes.length 0,[],[],1⟩,[]):=by
 refine ai ?_;have r1:aP t.nodes.length 8=True:=jx;simp only[WH,E37,aA,ak,iL,aE,r1,ae.norm,oL,List.map_replicate,EW,simprocAttr];rfl
end
abbrev eU:Unit->ae:=fun _ => .agg []
def flN(l:AM Node):(ji aF l).all ae.flat=true:=DN _ (fun _=>rfl) l
def rnN(ρ:Nat->Nat)(l:AM Node):(ji aF l).map (ae.iE ρ)=ji aF l:=PO _ _ (fun _=>rfl) l
def adT(l:AM Node):(ji aF l).flatMap ae.ids=[]:=Lp _ (fun _=>rfl) l
def Q6(B:Nat)(M:aj)(l:AM Node):List.map (ae.eJ B M) (ji aF l)=ji aF l:=Q7 _ _ _ (fun _=>rfl) l
def flU(l:AM Unit):(ji eU l).all ae.flat=true:=DN _ (fun _=>rfl) l
def rnU(ρ:Nat->Nat)(l:AM Unit):(ji eU l).map (ae.iE ρ)=ji eU l:=PO _ _ (fun _=>rfl) l
def ak1(l:AM Unit):(ji eU l).flatMap ae.ids=[]:=Lp _ (fun _=>rfl) l
def bkU(B:Nat)(M:aj)(l:AM Unit):List.map (ae.eJ B M) (ji eU l)=ji eU l:=Q7 _ _ _ (fun _=>rfl) l
abbrev VS:=AM Unit×List Node
def dM(all:AM Node):Nat->Int->VS->Bool×VS
 |0,_,st=>(false,st)
 |f+1,ino,st =>
  if (cD st.1 ino).isSome=true then (true,st) else
  if (!(cD all ino).isSome)=true then (false,(gJ st.1 ino (),st.2)) else
  ((cD all ino).getD Node.zero).av.foldl (fun w e=>((dM all f e.ino w.2).1&&w.1,(dM all f e.ino w.2).2)) (true,(gJ st.1 ino (),st.2++[(cD all ino).getD Node.zero]))
def missing(all:AM Node)(met:AM Unit):Nat:=(all.filter fun p=>(cD met p.1).isNone).length
def j7(all:AM Node)(met:AM Unit)(ino:Int):missing all (gJ met ino ())<=missing all met:=by
 unfold missing;simp only[fU];induction all with
 |nil=>simp
 |cons p r ih =>
  simp only[List.filter_cons]
  by_cases h:p.1=ino
  ·simp only[h,if_true,Option.isNone_some,Bool.false_eq_true,if_false];split
   ·simp only[List.length_cons]; omega
   ·exact ih
  ·simp only[h,if_false];split
   ·simp only[List.length_cons]; omega
   ·exact ih
def wQ{all:AM Node}{met:AM Unit}{ino:Int}{n:Node}(h:cD all ino=some n)(h0:cD met ino=none):missing all (gJ met ino ())<missing all met:=by
 have hm:=sj _ _ _ h;clear h;unfold missing;induction all with
 |nil=>cases hm
 |cons p r ih =>
  simp only[List.filter_cons,fU]
  by_cases hp:p.1=ino
  ·have h1:=j7 r met ino;unfold missing at h1;simp only[fU] at h1;simp only[hp,if_true,Option.isNone_some,Bool.false_eq_true,if_false,h0,Option.isNone_none];simp only[List.length_cons];omega
  ·rcases List.mem_cons.1 hm with h2|h2
   ·exact absurd (by rw[<-h2]) hp
   ·have:=ih h2;simp only[fU] at this;simp only[hp,if_false];split
    ·simp only[List.length_cons]; omega
    ·exact this
structure mO(all:AM Node)(st st':VS):Prop where
 len:st'.2.length+missing all st'.1<=st.2.length+missing all st.1
 YZ:missing all st'.1<=missing all st.1
 met:∀j,(cD st.1 j).isSome=true->(cD st'.1 j).isSome=true
 nodup:(st.2.map Node.ino).Nodup->(∀n,n∈st.2->(cD st.1 n.ino).isSome=true)->(st'.2.map Node.ino).Nodup/\∀n,n∈st'.2->(cD st'.1 n.ino).isSome=true
def mO.refl(all:AM Node)(st:VS):mO all st st:=⟨Nat.le_refl _,Nat.le_refl _,fun _ h=>h,fun h1 h2=>⟨h1,h2⟩⟩
theorem mO.trans{all:AM Node}{a b c:VS}(h:mO all a b)(k:mO all b c):mO all a c :=
 ⟨Nat.le_trans k.len h.len,Nat.le_trans k.YZ h.YZ,fun j hj=>k.met j (h.met j hj),fun h1 h2=>let ⟨g1,g2⟩:=h.nodup h1 h2; k.nodup g1 g2⟩
def Own(all:AM Node):Prop:=∀k n,cD all k=some n->n.ino=k
def pk{all:AM Node}(ho:Own all):∀(f:Nat)(ino:Int)(st:VS),mO all st (dM all f ino st).2:=by
 intro f;induction f with
 |zero=>intro ino st; exact mO.refl _ _
 |succ f ih =>
  intro ino st;rw[dM];split
  ·exact mO.refl _ _
  ·rename_i h0;have h0:cD st.1 ino=none:=by simpa using h0
   have hput:mO all st (gJ st.1 ino (),st.2):=by
    refine⟨?_,j7 _ _ _,fun j hj=>?_,fun h1 h2=>⟨h1,fun n hn=>?_⟩⟩
    ·have:=j7 all st.1 ino;simp only;omega
    ·simp only[fU]; split
     ·rfl
     ·exact hj
    ·simp only[fU]; split
     ·rfl
     ·exact h2 n hn
   split
   ·exact hput
   ·rename_i h1;cases hn:cD all ino with
    |none=>simp[hn] at h1
    |some n =>
     simp only[Option.getD_some]
     have hstep:mO all st (gJ st.1 ino (),st.2++[n]):=by
      have hlt:=wQ hn h0;refine⟨by simp; omega,j7 _ _ _,hput.met,fun g1 g2=>?_⟩
      have hni:=ho _ _ hn;refine⟨?_,fun m hm=>?_⟩
      ·rw[List.map_append,List.nodup_append];refine⟨g1,by simp,?_⟩
       intro a ha b hb;simp only[List.map_cons,List.map_nil,List.mem_singleton] at hb;subst hb;intro hab;obtain⟨m,hm,rfl⟩:=List.mem_map.1 ha;have:=g2 m hm;rw[hab,hni,h0] at this;cases this
      ·rcases List.mem_append.1 hm with h|h
       ·exact(hput.nodup g1 g2).2 m h
       ·simp only[List.mem_singleton] at h;subst h;simp only[fU,hni,if_true,Option.isSome_some]
     have hfold:∀(l:List ct)(w:Bool×VS),mO all w.2 (l.foldl (fun w e=>((dM all f e.ino w.2).1&&w.1,(dM all f e.ino w.2).2)) w).2:=by
      intro l;induction l with
      |nil=>intro w; exact mO.refl _ _
      |cons e r ihr =>
       intro w;rw[List.foldl_cons];exact(ih e.ino w.2).trans (ihr ((dM all f e.ino w.2).1&&w.1,(dM all f e.ino w.2).2))
     exact hstep.trans (hfold n.av (true,(gJ st.1 ino (),st.2++[n])))
def ml:ae := .func 157 [.ptr 0 0,.ptr 1 0,.ptr 2 0,.ptr 3 0]
def fJ(all:AM Node)(st:VS):aj:=[.cells [.cU 4],.cells [.cU 5],.cells [.aW 6 st.2.length 6 0 st.2.length],.cells [ml],.map (uF st.1) (ji eU st.1),.map (uF all) (ji aF all),.arr 6 st.2.length (st.2.map aF)]
def FY(all:AM Node)(st:VS):(fJ all st).map (aM.iE (da [0,1,2,3,4,5,6]))=fJ all st/\(fJ all st).map (aM.iE (px [0,1,2,3,4,5,6]))=fJ all st:=by
 constructor
 ·simp only[fJ,List.map_cons,List.map_nil,aM.iE,rnN,rnU]; rfl
 ·simp only[fJ,List.map_cons,List.map_nil,aM.iE,rnN,rnU]; rfl
def ahp(all:AM Node)(st:VS)(L:aj):dK (fJ all st++L) (da [0,1,2,3,4,5,6]) [0,1,2,3,4,5,6]=some (fJ all st):=by
 have h:=(FY all st).1;simp only[fJ,List.map_cons,List.map_nil] at h;injection h with h0 h; injection h with h1 h; injection h with h2 h; injection h with h3 h; injection h with h4 h; injection h with h5 h; injection h with h6 h
 simp only[fJ,List.cons_append,List.nil_append,dK,nth,h0,h1,h2,h3,h4,h5,h6];simp only[aM.flat,flN,flU,if_true];rfl
def ak3(all:AM Node)(st:VS)(L:aj):iU (fJ all st++L) [0,1,2,3]=[4,5,6,0,1,2,3]/\iU (fJ all st++L) [0,1,2,3,4,5,6]=[4,5,6,0,1,2,3]:=by
 refine⟨rfl,?_⟩
 show[4,5,6,0,1,2,3]++((ji eU st.1).flatMap ae.ids++((ji aF all).flatMap ae.ids++([]++[])))=_
 rw[ak1,adT]; rfl
def PM(all:AM Node)(st:VS)(L:aj):reach (fJ all st++L) [0,1,2,3]=[0,1,2,3,4,5,6]/\eG (fJ all st++L) [0,1,2,3,4,5,6]=[0,1,2,3,4,5,6]:=by
 obtain⟨h1,h2⟩:=ak3 all st L;have e0:ef [] [0,1,2,3]=[0,1,2,3]:=rfl;have e1:ef [0,1,2,3] [4,5,6,0,1,2,3]=[0,1,2,3,4,5,6]:=rfl;have e2:ef [0,1,2,3,4,5,6] [4,5,6,0,1,2,3]=[0,1,2,3,4,5,6]:=rfl;simp only[reach,eG,e0,h1,e1,h2,e2,and_self]
def Z9(all:AM Node)(st st':VS)(L:aj):eW [0,1,2,3,4,5,6] (fJ all st++L) [0,1,2,3,4,5,6] (fJ all st')=fJ all st'++L:=by
 have h:=(FY all st').2;simp only[fJ,List.map_cons,List.map_nil] at h;injection h with h0 h; injection h with h1 h; injection h with h2 h; injection h with h3 h; injection h with h4 h; injection h with h5 h; injection h with h6 h
 simp only[fJ,List.cons_append,List.nil_append,eW,h0,h1,h2,h3,h4,h5,h6,dA]
def UG(all:AM Node)(st:VS):(fJ all st).all aM.flat=true:=by
 simp only[fJ,List.all_cons,aM.flat,flN,flU]; rfl
def Wl{all:AM Node}{ino:Int}{st st':VS}{b:Bool}{L:aj}(h:ag aH 157 [.int .i64 ino,.ptr 0 0,.ptr 1 0,.ptr 2 0,.ptr 3 0] (fJ all st)=some (.bool b,fJ all st')) :
  ar (ag aH) 157 [.int .i64 ino,.ptr 0 0,.ptr 1 0,.ptr 2 0,.ptr 3 0] (fJ all st++L)=some (.bool b,fJ all st'++L) :=
 eE (ids:=[0,1,2,3,4,5,6]) rfl (PM all st L).1 (ahp all st L) (PM all st L).2 rfl h rfl rfl (UG all st') rfl (Z9 all st st' L)
section
attribute [local irreducible] bS cz fu gK bG kr ag ar aQ aG
def SQ{all:AM Node}{n:Node}{f:Nat}(ho:Own all){k:List K}{R:Bool×VS->Option (ae×aj)}(hn:n.av.length<=100000)
  (ih:∀e,e∈n.av->∀st,missing all st.1<f->st.2.length+missing all st.1<=200000->ag aH 157 [.int .i64 e.ino,.ptr 0 0,.ptr 1 0,.ptr 2 0,.ptr 3 0] (fJ all st)=some (.bool (dM all f e.ino st).1,fJ all (dM all f e.ino st).2))
  (hx:∀w e,kr (ag aH) [.tmp 6] 7 k ⟨.exit 0,(4,.ptr 3 0)::(11,.bool w.1)::e,fJ all w.2++[.cells [],.cells (an n)]⟩=R w) :
  ∀(l pre:List ct)(w:Bool×VS),n.av=pre++l->missing all w.2.1<f->w.2.2.length+missing all w.2.1<=200000->bS (ag aH) [.tmp 6] 7 k (.loop [4,11,37,38,39] R5) [(4,.ptr 3 0),(11,.bool w.1),(37,cT n.av),(38,.int .i64 n.av.length),(39,.int .i64 pre.length)] (fJ all w.2++[.cells [],.cells (an n)]) =
   R (l.foldl (fun w e=>((dM all f e.ino w.2).1&&w.1,(dM all f e.ino w.2).2)) w):=by
 intro l;induction l with
 |nil =>
  intro pre w h _ _;rw[aC];simp only[fJ,Gf,cQ h,List.foldl_nil,EW,simprocAttr] at hx ⊢;exact hx _ _
 |cons x rest ihl =>
  intro pre w h hm hl;rw[aC];have hlen:pre.length+1<=100000:=by rw[h] at hn; simp at hn; omega
  have hw:=ny pre x;rw[List.foldl_cons];have hg:=pk ho f x.ino w.2;have q:=Wl (L:=[.cells [],.cells (an n),.cells (bU x)]) (ih x (by rw[h]; simp) w.2 hm hl)
  have hi1:=ihl (pre++[x]) ((dM all f x.ino w.2).1&&w.1,(dM all f x.ino w.2).2) (by rw[h]; simp) (by have:=hg.YZ; simp only; omega) (by have:=hg.len; simp only; omega)
  generalize dM all f x.ino w.2=v at q hi1 ⊢;clear hg ih;simp only[fJ,ml,an,bU,List.length_append,List.length_cons,List.length_nil,Nat.zero_add,List.cons_append,List.nil_append] at hi1 q;obtain⟨b,st'⟩:=v;cases b<;>simp only[fJ,ml,Gf,cv h,bT h,an,bU,q,hw,Q6,bkU,Bool.true_and,Bool.false_and,EW,simprocAttr] at hi1 ⊢
  ·exact hi1
  ·exact hi1
def FG(z x:ae):jk z true (some x) = .tuple [x,.bool true]:=rfl
def Ol(z:ae):jk z true none = .tuple [z,.bool false]:=rfl
def aju{all:AM Node}(ho:Own all)(hb:∀k n,cD all k=some n->n.av.length<=100000):∀(f:Nat)(ino:Int)(st:VS),missing all st.1<f->st.2.length+missing all st.1<=200000 ->
  ag aH 157 [.int .i64 ino,.ptr 0 0,.ptr 1 0,.ptr 2 0,.ptr 3 0] (fJ all st)=some (.bool (dM all f ino st).1,fJ all (dM all f ino st).2):=by
 intro f;induction f with
 |zero=>intro ino st h; omega
 |succ f ih =>
  intro ino st hm hl;refine ai ?_;rw[dM];have p1:=lA eU st.1 ino ();cases h0:cD st.1 ino with
  |some u =>
   simp only[Option.isSome_some,if_true];simp only[fJ,ml,Bi,Gf,gX,FG,eU,mapOf.eq_1,h0,Q6,bkU,EW,simprocAttr]
  |none =>
   simp only[Option.isSome_none,Bool.false_eq_true,if_false];have hp:=j7 all st.1 ino;cases hn:cD all ino with
   |none =>
    simp only[fJ,ml,Bi,Gf,gX,FG,Ol,mapOf.eq_1,h0,hn,p1,Option.map_none,Option.isSome_none,if_true,Q6,bkU,EW,simprocAttr]
   |some n =>
    have hlt:=wQ hn h0;have r1:aP (st.2.length+1) 80=True:=jx;have hl1:=SQ ho (hb ino n hn) (f:=f) (k:=[.block 0,.seq Zx]) (R:=fun w=>some (.bool w.1,fJ all w.2)) (fun e he st h1 h2=>ih e.ino st h1 h2) (fun w e=>by simp only[fJ,ml,Gf,an,Q6,bkU,EW,simprocAttr]) n.av [] (true,(gJ st.1 ino (),st.2++[n])) rfl (by simp only; omega) (by simp; omega)
    clear ih;simp only[fJ,ml,an,List.length_nil,List.cons_append,List.nil_append,List.length_append,List.length_cons,Nat.zero_add,List.map_append,List.map_cons,List.map_nil,aF] at hl1;simp only[fJ,ml,Bi,Gf,gX,FG,Ol,mapOf.eq_1,h0,hn,p1,r1,an,aF,Option.map_none,Option.isSome_some,Option.getD_some,Bool.false_eq_true,if_false,EW,simprocAttr];exact hl1
end
section
def zC(x:Node):List Node->List Node
 | []=>[x]
 |y::r=>if x.ino<y.ino then x::y::r else y::zC x r
def uX:List Node->List Node
 | []=>[]
 |x::r=>zC x (uX r)
def alY(n:Node):kE 0 (aF n)=n.ino:=rfl
def yo(x:Node):∀l:List Node,wA 0 (aF x) (l.map aF)=(zC x l).map aF
 | []=>rfl
 |y::r=>by
  simp only[List.map_cons,wA,zC,alY]
  by_cases h:x.ino<y.ino
  ·simp only[h,if_true,List.map_cons]
  ·simp only[h,if_false,List.map_cons,yo x r]
def xe:∀l:List Node,jo 0 (l.map aF)=(uX l).map aF
 | []=>rfl
 |x::r=>by simp only[List.map_cons,jo,uX,xe r,yo]
def fV(a:Int)(m:AM Node)(p:iy):AM Node:=if (decide (p.dZ<=a)&&decide (a<p.xH))=true then gJ m p.node.ino p.node else m
def lC(a:Int):List Node->List Int->AM Node->AM Node
 |n::r,y::ys,m=>lC a r ys (if decide (y<=a)=true then gJ m n.ino n else m)
 |_,_,m=>m
def qQ(s:c8)(a:Int):AM Node:=lC a s.now.nodes s.since (s.bq.foldl (fV a) [])
structure pY(m:AM Node):Prop where
 own:Own m
 av:∀k n,cD m k=some n->n.av.length<=100000
def pY.put{m:AM Node}(h:pY m)(n:Node)(hn:n.av.length<=100000):pY (gJ m n.ino n) where
 own:=fun k x hx=>by
  rw[fU] at hx;split at hx
  ·rename_i e; injection hx with hx; rw[<-hx,e]
  ·exact h.own k x hx
 av:=fun k x hx=>by
  rw[fU] at hx;split at hx
  ·injection hx with hx; rw[<-hx]; exact hn
  ·exact h.av k x hx
def o6(a:Int):∀(l:List iy)(m:AM Node),pY m->(∀p,p∈l->p.node.av.length<=100000)->pY (l.foldl (fV a) m)/\(l.foldl (fV a) m).length<=m.length+l.length
 | [],m,h,_=>⟨h,Nat.le_refl _⟩
 |p::r,m,h,hp=>by
  rw[List.foldl_cons]
  have h1:pY (fV a m p)/\(fV a m p).length<=m.length+1:=by
   unfold fV;split
   ·exact⟨h.put _ (hp p (by simp)),wR _ _ _⟩
   ·exact⟨h,by omega⟩
  obtain⟨g1,g2⟩:=o6 a r _ h1.1 (fun q hq=>hp q (by simp[hq]))
  exact⟨g1,by simp only[List.length_cons]; omega⟩
def tY(a:Int):∀(l:List Node)(y:List Int)(m:AM Node),pY m->(∀p,p∈l->p.av.length<=100000)->pY (lC a l y m)/\(lC a l y m).length<=m.length+l.length
 | [],_,m,h,_=>by unfold lC; exact⟨h,Nat.le_refl _⟩
 |n::r,[],m,h,_=>by unfold lC; exact⟨h,by omega⟩
 |n::r,y::ys,m,h,hp=>by
  rw[lC]
  have h1:pY (if decide (y<=a)=true then gJ m n.ino n else m)/\(if decide (y<=a)=true then gJ m n.ino n else m).length<=m.length+1:=by
   split
   ·exact⟨h.put _ (hp n (by simp)),wR _ _ _⟩
   ·exact⟨h,by omega⟩
  obtain⟨g1,g2⟩:=tY a r ys _ h1.1 (fun q hq=>hp q (by simp[hq]))
  exact⟨g1,by simp only[List.length_cons]; omega⟩
def nP(m:AM Node)(met:AM Unit):missing m met<=m.length:=List.length_filter_le _ _
def pj(s:c8)(x:eX):Bool×VS:=dM (qQ s x.at') 200001 x.ino ([],[])
def wx(s:c8)(x:eX):List Node:=uX (pj s x).2.2
attribute [local irreducible] bS cz fu gK bG kr ag ar aQ aG
def rZ(s:c8)(x:eX)(m:AM Node):aj:=[.cells (aE s),.cells (cS x),.map (uF m) (ji aF m),.cells [.cU 2]]
def Tu{s:c8}{x:eX}(hn:s.bq.length<=100000){k:List K}{fin:AM Node}{r:Option (ae×aj)}
  (hx:∀e,kr (ag aH) [.tmp 4,.tmp 5] 0 k ⟨.exit 0,(2,.ptr 0 0)::(3,.ptr 1 0)::(6,.ptr 3 0)::e,rZ s x fin⟩=r) :
  ∀(l pre:List iy)(m:AM Node),s.bq=pre++l->l.foldl (fV x.at') m=fin->bS (ag aH) [.tmp 4,.tmp 5] 0 k (.loop [2,3,6,17,18,19] YM) [(2,.ptr 0 0),(3,.ptr 1 0),(6,.ptr 3 0),(17,nJ s.bq),(18,.int .i64 s.bq.length),(19,.int .i64 pre.length)] (rZ s x m)=r:=by
 intro l;induction l with
 |nil =>
  intro pre m h hfin;rw[aC];rw[List.foldl_nil] at hfin;subst hfin;simp only[rZ,QP,cQ h,EW,simprocAttr] at hx ⊢;exact hx _
 |cons p rest ih =>
  intro pre m h hfin;rw[aC];have hlen:pre.length+1<=100000:=by rw[h] at hn; simp at hn; omega
  have hw:=ny pre p;rw[List.foldl_cons] at hfin;have hi1:=ih (pre++[p]) (fV x.at' m p) (by rw[h]; simp) hfin
  clear hfin;have hput:=lA aF m p.node.ino p.node;unfold fV at hi1;simp only[rZ,aE,cS,aF,an,List.length_append,List.length_cons,List.length_nil,Nat.zero_add] at hi1 hput;simp only[rZ,QP,cv h,bT h,aE,cS,fT,an,EW,simprocAttr];cases h1:decide (p.dZ<=x.at')<;>cases h2:decide (x.at'<p.xH)<;>simp only[h1,h2,QP,hw,hput,mapOf.eq_1,Bool.and_false,Bool.false_eq_true,if_true,if_false,Q6,EW,simprocAttr] at hi1 ⊢
  all_goals exact hi1
def Tv{s:c8}{x:eX}(hn:s.now.nodes.length<=100000)(hl:s.since.length=s.now.nodes.length){k:List K}{fin:AM Node}{r:Option (ae×aj)}
  (hx:∀e,kr (ag aH) [.tmp 4,.tmp 5] 0 k ⟨.exit 2,(2,.ptr 0 0)::(3,.ptr 1 0)::(6,.ptr 3 0)::e,rZ s x fin⟩=r) :
  ∀(l pre:List Node)(y ypre:List Int)(m:AM Node),s.now.nodes=pre++l->s.since=ypre++y->ypre.length=pre.length->lC x.at' l y m=fin->bS (ag aH) [.tmp 4,.tmp 5] 0 k (.loop [2,3,6,44,45,46] YN) [(2,.ptr 0 0),(3,.ptr 1 0),(6,.ptr 3 0),(44,au s.now.nodes),(45,.int .i64 s.now.nodes.length),(46,.int .i64 pre.length)] (rZ s x m)=r:=by
 intro l;induction l with
 |nil =>
  intro pre y ypre m h hy hyl hfin;rw[aC];have hg:lC x.at' [] y m=m:=by unfold lC; rfl
  rw[hg] at hfin;subst hfin;simp only[rZ,QP,cQ h,EW,simprocAttr] at hx ⊢;exact hx _
 |cons n rest ih =>
  intro pre y ypre m h hy hyl hfin;rw[aC];have hlen:pre.length+1<=100000:=by rw[h] at hn; simp at hn; omega
  have hw:=ny pre n;cases y with
  |nil=>have h1:=congrArg List.length h; have h2:=congrArg List.length hy; simp at h1 h2; omega
  |cons c y =>
   have hxa:s.since[pre.length]?=some c:=by rw[hy,<-hyl]; simp
   have hi1:=ih (pre++[n]) y (ypre++[c]) (if decide (c<=x.at')=true then gJ m n.ino n else m) (by rw[h]; simp) (by rw[hy]; simp) (by simp[hyl]) (by rw[<-hfin,lC])
   clear hfin;have hput:=lA aF m n.ino n;simp only[rZ,aE,cS,aF,an,List.length_append,List.length_cons,List.length_nil,Nat.zero_add] at hi1 hput;simp only[rZ,QP,cv h,bT h,aE,cS,an,hxa,EW,simprocAttr];cases h1:decide (c<=x.at')<;>simp only[h1,QP,hw,hput,mapOf.eq_1,Bool.false_eq_true,if_true,if_false,Q6,EW,simprocAttr] at hi1 ⊢
   all_goals exact hi1
def xE(s:c8)(x:eX)(all:AM Node)(st:VS):aj:=[.cells (aE s),.cells (cS x),.map (uF all) (ji aF all),.cells [.cU 2],.map (uF st.1) (ji eU st.1),.cells [.cU 4],.arr 6 st.2.length (st.2.map aF),.cells [.aW 6 st.2.length 6 0 st.2.length],.cells [.func 157 [.ptr 5 0,.ptr 3 0,.ptr 7 0,.ptr 8 0]]]
end
end Go.Proofs.YtahkjijkflobhaaGreatDoor
