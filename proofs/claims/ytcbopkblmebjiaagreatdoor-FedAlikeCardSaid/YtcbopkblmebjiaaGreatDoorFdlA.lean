import Derived.Test.YtcbopkblmebjiaaGreatDoorFduF
set_option linter.unusedSimpArgs false
set_option linter.unusedVariables false
set_option linter.unusedSectionVars false
set_option linter.defProp false
namespace Go.Proofs.YtcbopkblmebjiaaGreatDoor
open Go Go.Abs
def FI.one{l:List Piece}{t:Tree}(h:FI l t){g:Int}(hg:mq g=true):FI (pr g) t:=by
 obtain⟨cf,hr⟩:=h.rt
 exact⟨⟨cf,hr⟩,Gi hg,Mf (Gi hg) hr fun i n hi hk=>by
  obtain⟨d,e,h1,h2,h3,h4⟩:=h.may.kept i n hi hk;exact⟨d,e,h1,h2,h3,h4⟩⟩
section
attribute [local irreducible] fP fi kD gK dp kr aq aL ct bI
def FI.HT{l:List Piece}{t:Tree}(h:FI l t)(M:aK):aL (aq iM) 28 [bH l,.agg [aZ t.ae,.int .i64 t.next,.int .i64 t.ai]] M=some (.agg (bC (cX (l,t))),M):=lG (h.xq M)
def FI.acx{x:List Piece×Tree}(h:FI x.1 x.2)(M:aK):aL (aq iM) 30 [.agg (bC (cX x)),.agg (bC (cX x))] M=some (.bool true,M):=lG (h.Y6 M)
set_option maxRecDepth 100000 in
def HV(n:UInt8)(xs:List kc)(m:UInt8):aq iM 6 [mF n,oM xs,mF m] []=some (.bool true,[]):=by
 refine aI ?_;have q1:=cP vy;have q2:=fun M=>lG (Uq xs M)
 cases h1:sE xs<;>rw[h1] at q2
 case true=>simp only[fn6,E6,mF,q1,q2,sd,EW,seval]
 obtain⟨hn,ho⟩:=sj h1;have hr:IntKind.i64.wrap ((m.toNat:Nat):Int)=((m.toNat:Nat):Int):=gx (by have:=m.toNat_lt; omega) (by have:=m.toNat_lt; omega)
 have hr2:((m.toNat:Nat):Int).tmod 8=pU m:=rfl;have q4:=fun M=>cO (Y7 (c14 n hn ho)) M
 have hf:=FI.made (qZ n) xs;generalize uj (pU n) xs=x at *;have hf2:FI (pr (pU m),x.2).1 (pr (pU m),x.2).2:=hf.one (qZ m);have w1:=hf.sR;have w2:=hf2.sR;have s1:=hf.HT;have s2:=hf2.HT;have e1:=hf.acx;have r2:=hf2.BO;have qt:=QB hf.rt;have q5:=fun M=>lG (k29 (pU m) M)
 have hp:(cX x).pieces=x.1:=rfl;have hl2:(cX (pr (pU m),x.2)).eh=[⟨pU m,x.2.ae⟩]:=hf2.alone rfl;change ∀M,aL (aq iM) 28 _ M=some (.agg (bC (cX x)),M) at s1;have hnp:pr (pU m)=[⟨[47],pU m,1⟩]:=rfl;generalize cX (pr (pU m),x.2)=g at *;generalize cX x=f at *;rw[hnp] at q5 s2;simp only[bC,mF,hp,hl2,jQ,bH,aV,bo,Ct,ml,dn,cL] at q4 q5 w1 w2 s1 s2 e1 r2;simp only[fn6,E6,mF,hr,hr2,q1,q2,q4,q5,w1,w2,s1,s2,e1,r2,qt,hp,hl2,jH,oq,ml,dQ,gr,cL,av,aG,aV,bo,jQ,bH,Ct,dn,an,sd,EW,seval]
end
end Go.Proofs.YtcbopkblmebjiaaGreatDoor
