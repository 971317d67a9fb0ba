import Derived.Test.YtdkfkpbijdimkaaGreatDoorLawEntries
set_option linter.unusedVariables false
set_option linter.unusedSimpArgs false
set_option linter.unusedSectionVars false
set_option maxRecDepth 20000
set_option maxHeartbeats 1000000
namespace Go.Proofs.YtdkfkpbijdimkaaGreatDoor
open Go Go.Sim
variable [Fu]
theorem mP {α:Type} (xs:List α):(xs.map (bOne (α:=α))).sum=xs.length:=by
 induction xs with
 |nil=>rfl
 |cons x xs ih=>simp[bOne] at ih⊢;omega
theorem jK {x:List Int} (h:gSl (gInt .u8) x):aI x:=fun b hb=>h.1 b hb
theorem jL {b:aq} (hb:∀c∈b.Cells,aI c):aI (dW b).1:=by
 unfold dW
 cases !fW b.Header with
 |true=>exact fun x hx=>(by cases hx)
 |false=>
  cases decide ((b.Cells.length:Int)>256) with
  |true=>exact fun x hx=>(by cases hx)
  |false=>
   cases b.Cells.all fun c=>c.length==320 with
   |false=>exact fun x hx=>(by cases hx)
   |true=>exact dH (dH (gZ _ _) (g6 hb)) (dI _ _)
theorem lr {b:aq}:(dW b).1.length<2^30:=by
 unfold dW
 cases !fW b.Header with
 |true=>simp
 |false=>
  cases hc:decide ((b.Cells.length:Int)>256) with
  |true=>simp
  |false=>
   have hc:=of_decide_eq_false hc
   cases ha:b.Cells.all fun c=>c.length==320 with
   |false=>simp
   |true=>
    have:=io _ ha
    have h2:=gP b.Header b.Cells.length
    show(fo b.Header b.Cells.length++ep b.Cells++numS (dj (sumS b.Header b.Cells)) 4).length<2^30
    rw[List.length_append,List.length_append,cd,this,h2];omega
theorem jt (aw:bI=some true) {h:ae} {cs:List (List Int)} {raw:List Int} (hc:∀c∈cs,aI c) (hl:raw.length<2^30) (hb:aI raw):aL h cs raw=some true:=by
 unfold aL cJ da
 rw[aw,lO _ hc,kP]
 have hpb:=jL (b:=⟨⟨h.Round,h.Epoch,h.Left⟩,cs⟩) hc
 have hpl:=lr (b:=⟨⟨h.Round,h.Epoch,h.Left⟩,cs⟩)
 generalize dW ⟨⟨h.Round,h.Epoch,h.Left⟩,cs⟩=P at*
 simp only[au,Bool.not_true,cond_false,bne_self_eq_false,Bool.or_self]
 have one:∀b,aI b→b.length<2^30→∃r,bd b=some r∧aR b=some r∧r.1.length<2^30:=fun b h1 h2=>by
   obtain⟨r,hr,hl⟩:=mO h2 h1
   exact⟨r,by rw[mN h2 h1,hr],hr,by omega⟩
 have hall:∀i,i<2→∃b,idx [raw,P.1] ((i:Nat):Int)=some b∧aI b∧b.length<2^30:=fun i hi=>by
   match i,hi with
   |0,_=>exact⟨raw,rfl,hb,hl⟩
   |1,_=>exact⟨P.1,rfl,hpb,hpl⟩
 rw[d9 (s0:=0) (r:=Sum.inl ()) (fun i=>(i:Int)) 0 2 (Nat.zero_le _) ?_ ?_ rfl]
 · rfl
 · intro i _ hi
   obtain⟨b,h1,h2,h3⟩:=hall i hi
   obtain⟨r,q1,q2,q3⟩:=one b h2 h3
   have hd:decide ((i:Int)<([raw,P.1].length:Int))=true:=decide_eq_true (by simp;omega)
   simp only[hd,cond_true,h1,au,q1,q2,bne_self_eq_false,cond_false]
   rw[jJ _ q3,wrap64 (by omega)]
   rfl
 · rfl
theorem jM (aw:bI=some true) (h:ae) (cs:List (List Int)) (raw:List Int) (gh:eY h) (gc:(gSl (gSl (gInt .u8))) cs) (gr:(gSl (gInt .u8)) raw)
  (hb:dY h+(bSl (bSl bOne)) cs+(bSl bOne) raw≤1048576):aL h cs raw=some true:=by
 have hR:raw.length≤bSl bOne raw:=by unfold bSl;rw[mP];omega
 exact jt aw (fun c hc=>jK (gc.1 c hc)) (by omega) (jK gr)
end Go.Proofs.YtdkfkpbijdimkaaGreatDoor
