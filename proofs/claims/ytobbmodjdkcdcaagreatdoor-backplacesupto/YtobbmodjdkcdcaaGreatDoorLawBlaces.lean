import Derived.Test.YtobbmodjdkcdcaaGreatDoorLawRet
set_option linter.unusedVariables false
set_option linter.unusedSimpArgs false
set_option linter.unusedSectionVars false
set_option maxRecDepth 20000
set_option maxHeartbeats 1000000
namespace Go.Proofs.YtobbmodjdkcdcaaGreatDoor
open Go Go.Sim
variable [Fu]
theorem vY {α:Type} (xs:List α):(xs.map (bOne (α:=α))).sum=xs.length:=by
 induction xs with
 |nil=>rfl
 |cons x xs ih=>simp[bOne] at ih⊢;omega
theorem vZ (h:aa):(h != h)=false:=by
 show(!(h.Round==h.Round&&(h.Epoch==h.Epoch&&(h.Left==h.Left&&true))))=false
 simp
theorem td (aw:dO=some true) (a:bL) (hg:fI a) (hbk:dv a≤1048576):cQ a=some true:=by
 obtain⟨gc,gm,gr,_⟩:=hg
 have hroomI:(room:Int)=17179869184:=rfl
 have hb:be a.Raw:=fun b h=>gr.1 b h
 have hlen:a.Raw.length<2^30:=by
   have h1:dv a=iK a.C+(iL a.M+(((a.Raw.map (bOne (α:=Int))).sum+1)+0)):=rfl
   rw[vY] at h1;omega
 have hcl:gInt .i64 a.C.Left:=gc.2.1
 have hn:∀x∈a.M.Nonces,x.length=16∧be x:=fun x hx=>⟨(gm.2.2.2.1.1 x hx).2,fun b hb=>(gm.2.2.2.1.1 x hx).1 b hb⟩
 obtain⟨r,hr,hcase⟩:=vk (c:=a.C) (m:=a.M) hlen hb hcl hn
 unfold cQ
 rw[aw]
 simp only[ae,Bool.not_true,cond_false]
 rw[hr]
 simp only[ae]
 rcases hcase with⟨h1,h2,h3,h4⟩|⟨h0,b,at_,hbr,hke,hcount,x,hout⟩
 · have e:(r.2.2 != 0)=true:=by simpa using h1
   have e1:decide (r.2.1≥0)=true:=decide_eq_true h3
   have e2:decide (r.2.1≤(a.Raw.length:Int))=true:=decide_eq_true h4
   rw[e,cond_true,h2,e1,e2];rfl
 · have e:(r.2.2 != 0)=false:=by rw[h0];rfl
   have e':(r.2.1 != 0)=false:=by rw[h0];rfl
   rw[e,cond_false,hbr]
   simp only[ae]
   rw[hout]
   simp only[ae]
   rw[qM]
   simp only[ae]
   have hol:(gR (keyS a.C.Master a.M.Header.Epoch).1 a.C.Left a.M.From a.M.Nonces b.Cells).length=a.M.Nonces.length:=by simp[gR]
   have c1:((a.M.Nonces.length:Int) != a.M.Count)=false:=by rw[hcount];simp
   have c2:((b.Cells.length:Int) != (a.M.From.length:Int))=false:=by rw[x.hlen];simp
   rw[hke,e',hol,c1,c2,vZ]
   simp only[bne_self_eq_false,Bool.or_self,cond_false]
   generalize (keyS a.C.Master a.M.Header.Epoch).1=key at*
   have g1:mkB 320 320=true:=by decide
   have hnl:=x.hnl
   have g2:mkB (a.M.Nonces.length:Int) (a.M.Nonces.length:Int)=true:=by unfold mkB;rw[hroomI];simp;omega
   rw[g1,cond_true,g2,cond_true,Int.toNat_natCast]
   rw[bw (s0:=(List.replicate a.M.Nonces.length false,(0:Int))) (r:= .inl ((List.range a.M.Nonces.length).map fun q=>fv a.C.Left a.M.From b.Cells q a.M.From.length)) (fun i=>((List.range a.M.Nonces.length).map fun q=>fv a.C.Left a.M.From b.Cells q i,(i:Int))) 0 a.M.From.length (by omega) ?_ ?_ ?_]
   · simp only[ae]
     rw[bw (s0:=(0:Int)) (r:= .inl ()) (fun i=>(i:Int)) 0 a.M.Nonces.length (by omega) ?_ ?_ rfl]
     · rfl
     · intro q _ hq
       have hd:decide ((q:Int)<((List.range a.M.Nonces.length).map fun q=>fv a.C.Left a.M.From b.Cells q a.M.From.length).length)=true:=decide_eq_true (by simp;omega)
       simp only[hd,cond_true]
       rw[cY (i:=q) false rfl (by simp;omega),tM _ hq]
       simp only[ae]
       cases hu:fv a.C.Left a.M.From b.Cells q a.M.From.length with
       | true =>
         simp only[Bool.not_true,cond_false,ae]
         rw[wrap64 (by omega)];rfl
       | false =>
         simp only[Bool.not_false,cond_true]
         rw[cY (i:=q) [] rfl (by rw[hol];exact hq)]
         simp only[ae]
         have:(gR key a.C.Left a.M.From a.M.Nonces b.Cells).getD q []=List.replicate (Int.toNat 320) 0:=by
           unfold gR
           rw[tM _ hq,pg _ hu];rfl
         rw[this,bne_self_eq_false,cond_false,wrap64 (by omega)];rfl
     · have hd:decide ((a.M.Nonces.length:Int)<((List.range a.M.Nonces.length).map fun q=>fv a.C.Left a.M.From b.Cells q a.M.From.length).length)=false:=decide_eq_false (by simp)
       simp only[hd,cond_false]
   · intro i _ hi
     have hic:i<b.Cells.length:=by rw[x.hlen];exact hi
     have hfl:=x.hfl
     have hd:decide ((i:Int)<(b.Cells.length:Int))=true:=decide_eq_true (by omega)
     simp only[hd,cond_true]
     rw[aW (i:=i) rfl hi]
     simp only[ae]
     obtain⟨d1,d2⟩:=x.hcs i hic
     cases hneg:decide (a.M.From.getD i 0<0) with
     | true =>
       have hneg:=of_decide_eq_true hneg
       simp only[cond_true,ae]
       rw[wrap64 (by omega),mK (g:=fun q=>fv a.C.Left a.M.From b.Cells q (i+1)) fun q _=>?_]
       · rfl
       · rw[fv,show hitB a.C.Left a.M.From b.Cells q i=false by unfold hitB;rw[show(a.M.From.getD i 0==(q:Int))=false by rw[beq_eq_false_iff_ne];omega];rfl];rfl
     | false =>
       have hneg:=of_decide_eq_false hneg
       obtain⟨q,hq⟩:∃q:Nat,a.M.From.getD i 0=q:=⟨(a.M.From.getD i 0).toNat,by omega⟩
       have hqn:=x.hfr i hi
       have hqn:q<a.M.Nonces.length:=by omega
       obtain⟨n1,n2⟩:=x.hns q hqn
       have hne:∀p,p≠q→hitB a.C.Left a.M.From b.Cells p i=false:=fun p hp=>by
         unfold hitB;rw[hq,show((q:Int)==(p:Int))=false by rw[beq_eq_false_iff_ne];omega];rfl
       have hme:hitB a.C.Left a.M.From b.Cells q i=(insS a.C.Left (b.Cells.getD i [])).2:=by
         unfold hitB;rw[hq,beq_self_eq_true,Bool.true_and]
       simp only[cond_false]
       rw[cY (i:=i) [] rfl hic]
       simp only[ae]
       rw[wg d1 d2 x.hl]
       simp only[ae]
       cases hy:(insS a.C.Left (b.Cells.getD i [])).2 with
       | false =>
         simp only[Bool.not_false,cond_true,ae]
         rw[wrap64 (by omega),mK (g:=fun q=>fv a.C.Left a.M.From b.Cells q (i+1)) fun p _=>?_]
         · rfl
         · rw[fv]
           by_cases e:p=q
           · rw[e,hme,hy];rfl
           · rw[hne p e];rfl
       | true =>
         obtain⟨p1,p2,p3,p4,p5⟩:=qv (key:=key) n1 n2 d1 d2 x.hl hy
         have hoq:(gR key a.C.Left a.M.From a.M.Nonces b.Cells).getD q []=(ansB key (a.M.Nonces.getD q []) a.C.Left (b.Cells.getD i [])).1:=by
           unfold gR
           rw[tM _ hqn]
           exact xi x hi (by rw[hme,hy])
         simp only[Bool.not_true,cond_false,hq]
         rw[cY (i:=q) false rfl (by simp;omega)]
         simp only[ae]
         rw[cY (i:=q) [] rfl hqn]
         simp only[ae]
         rw[mt x.hk n1]
         simp only[ae]
         rw[cY (i:=q) [] rfl (by rw[hol];exact hqn),hoq]
         simp only[ae]
         rw[tz (by rw[mu];omega) p3]
         simp only[ae]
         rw[p4,p5]
         simp only[bne_self_eq_false,Bool.or_self,cond_false,ae,Int.toNat_natCast]
         rw[wrap64 (by omega),uq (g:=fun q=>fv a.C.Left a.M.From b.Cells q (i+1)) hqn ?_ fun p _ e=>?_]
         · rfl
         · show _=fv a.C.Left a.M.From b.Cells q (i+1)
           rw[fv,hme,hy];rfl
         · rw[fv,hne p e];rfl
   · have hd:decide ((a.M.From.length:Int)<(b.Cells.length:Int))=false:=decide_eq_false (by rw[x.hlen];omega)
     simp only[hd,cond_false]
   · rw[Prod.mk.injEq]
     refine⟨?_,rfl⟩
     apply List.ext_getElem
     · simp
     · intro j h1 h2;simp[fv]
end Go.Proofs.YtobbmodjdkcdcaaGreatDoor
