import Derived.Test.YtdkfkpbijdimkaaGreatDoorLawFeedR
set_option linter.unusedVariables false
set_option linter.unusedSimpArgs false
set_option linter.unusedSectionVars false
set_option maxRecDepth 20000
set_option maxHeartbeats 1000000
namespace Go.Proofs.YtdkfkpbijdimkaaGreatDoor
open Go Go.Sim
variable [Fu]
def posN (j:Nat):Nat:=[0,4,5,6,8,16,24].getD j 0
def ar (raw:List Int) (j:Nat):List Int:=(raw.drop (posN j)).take (ay j)
theorem gO {j:Nat} (h:j<6):posN (j+1)=posN j+ay j:=by
 match j,h with
 |0,_|1,_|2,_|3,_|4,_|5,_=>rfl
theorem iY {w:List Int} (hb:aI w) (h8:w.length=8):bigS w=bigS (w.take 7)*256+w.getD 7 0:=by
 have e:w=w.take 7++[w.getD 7 0]:=by
  have:=List.take_succ_eq_append_getElem (l:=w) (i:=7) (by omega)
  rw[List.take_of_length_le (by omega)] at this
  simp only[List.getD,List.getElem?_eq_getElem (show 7<w.length by omega),Option.getD_some]
  exact this
 have hp:(w.take 7).length=7:=by simp;omega
 obtain⟨v,h1,h2⟩:=cm 7 (w.take 7) hp (by omega) (cn hb 7)
 have hg:=cT hb 7
 obtain⟨c,hc⟩:∃c:Nat,w.getD 7 0=c:=⟨(w.getD 7 0).toNat,by omega⟩
 have e2:bigS (w.take 7++[w.getD 7 0])=orI .u64 (shlI .u64 (bigS (w.take 7)) 8) (IntKind.wrap .u64 (w.getD 7 0)):=by
  unfold bigS;rw[List.foldl_append];rfl
 rw[←e] at e2
 rw[e2,h1,hc,jy (by omega) (by omega)]
 omega
theorem lb {w:List Int} (hb:aI w) (h8:w.length=8) {c:Int} (h0:0≤c) (hc:c<9223372036854775807):(decide (el w<0)||decide (el w>c))=decide (bigS w>c):=by
 have hl:=iY hb h8
 have hg:=cT hb 7
 obtain⟨g1,g2⟩:=gz hb (by omega)
 unfold el
 have d8:decide ((8:Nat)=8)=true:=rfl
 rw[h8,d8,Bool.true_and]
 cases h7:decide (bigS (w.take 7)≥36028797018963968) with
 |true=>
  have h7:=of_decide_eq_true h7
  have e:decide (bigS w>c)=true:=decide_eq_true (by omega)
  rw[e];rfl
 |false=>
  simp only[cond_false]
  have e:decide (bigS w<0)=false:=decide_eq_false (by omega)
  rw[e,Bool.false_or]
theorem jv {w:List Int} (h2:w.length=2):el w=bigS w:=by
 unfold el
 rw[h2];rfl
theorem jO {w:List Int} (hb:aI w) (h8:w.length=8) (h:bigS w≤4611686018427387904):el w=bigS w:=by
 have hl:=iY hb h8
 have hg:=cT hb 7
 unfold el
 have e:decide (bigS (w.take 7)≥36028797018963968)=false:=decide_eq_false (by omega)
 rw[e,Bool.and_false];rfl
theorem ik {raw:List Int} {j i:Nat} (hi:i<ay j):(ar raw j).getD i 0=raw.getD (posN j+i) 0:=by
 simp[ar,List.getD,List.getElem?_take,List.getElem?_drop,hi]
theorem fN {raw:List Int} {j:Nat} (hj:j<6) (h:posN (j+1)≤raw.length):(ar raw j).length=ay j:=by
 rw[gO hj] at h
 simp[ar];omega
theorem gY {raw:List Int} (hb:aI raw) (j:Nat):aI (ar raw j):=cn (fi hb _) _
theorem lv {raw:List Int} (hb:aI raw) (h30:raw.length<2^30) {j:Nat} (hj:j<6) (hl:posN (j+1)≤raw.length) (s:ah) {z:Int} (hz:z=posN j):aH raw z=some (judE j (ar raw j) s):=by
 have hfl:=fN hj hl
 have hfb:=gY hb j
 match j,hj with
 |0,_=>
  have hz:z=0:=hz
  have hl:4≤raw.length:=hl
  subst hz
  unfold aH
  rw[jZ (h:=4) (j:=4) rfl hl]
  have e:raw.take 4=ar raw 0:=rfl
  rw[e]
  simp only[au,Int.reduceBEq,cond_true,ib hfb,judE]
  cases ar raw 0 != [67,72,82,78] with
  |true=>rfl
  |false=>rfl
 |1,_=>
  have hz:z=4:=hz
  have hl:5≤raw.length:=hl
  subst hz
  unfold aH
  have e:(ar raw 1).getD 0 0=raw.getD 4 0:=ik (by decide)
  rw[cR (z:=4) (i:=4) rfl (by omega)]
  simp only[au,Int.reduceBEq,cond_true,cond_false,judE,e]
  cases raw.getD 4 0 != 1 with
  |true=>rfl
  |false=>rfl
 |2,_=>
  have hz:z=5:=hz
  have hl:6≤raw.length:=hl
  subst hz
  unfold aH
  have e:(ar raw 2).getD 0 0=raw.getD 5 0:=ik (by decide)
  rw[cR (z:=5) (i:=5) rfl (by omega)]
  simp only[au,Int.reduceBEq,cond_true,cond_false,judE,e]
  cases decide (raw.getD 5 0>8) with
  |true=>rfl
  |false=>rfl
 |3,_=>
  have hz:z=6:=hz
  have hl:8≤raw.length:=hl
  subst hz
  unfold aH
  have e:(raw.drop 6).take 2=ar raw 3:=rfl
  rw[em (z:=6) (y:=2) (a:=6) (k:=2) rfl rfl (by omega) (by omega) (by omega) h30 hb,e,jv hfl]
  simp only[au,Int.reduceBEq,cond_true,cond_false,judE]
  cases decide (bigS (ar raw 3)>256) with
  |true=>rfl
  |false=>rfl
 |4,_=>
  have hz:z=8:=hz
  have hl:16≤raw.length:=hl
  subst hz
  unfold aH
  have e:(raw.drop 8).take 8=ar raw 4:=rfl
  rw[em (z:=8) (y:=8) (a:=8) (k:=8) rfl rfl (by omega) (by omega) (by omega) h30 hb,e]
  have hc:=lb hfb hfl (c:=4611686018427387903) (by omega) (by omega)
  have hd:decide (el (ar raw 4)≥4611686018427387904)=decide (el (ar raw 4)>4611686018427387903):=by
   rw[decide_eq_decide];omega
  simp only[au,Int.reduceBEq,cond_true,cond_false,judE,hd,hc]
  cases decide (bigS (ar raw 4)>4611686018427387903) with
  |true=>rfl
  |false=>rfl
 |5,_=>
  have hz:z=16:=hz
  have hl:24≤raw.length:=hl
  subst hz
  unfold aH
  have e:(raw.drop 16).take 8=ar raw 5:=rfl
  rw[em (z:=16) (y:=8) (a:=16) (k:=8) rfl rfl (by omega) (by omega) (by omega) h30 hb,e]
  have hc:=lb hfb hfl (c:=4611686018427387904) (by omega) (by omega)
  simp only[au,Int.reduceBEq,cond_true,cond_false,judE,hc]
  cases decide (bigS (ar raw 5)>4611686018427387904) with
  |true=>rfl
  |false=>rfl
theorem jP {raw:List Int} {j n:Nat} (hj:j<6) (hp:posN j≤raw.length) {l:Int} {hd:ae} {s:ah} {cs:List (List Int)}:
  di (n+1) (raw.drop (posN j)) (posN j:Int) j l hd s cs=bif decide ((raw.length:Int)<(posN (j+1):Int)) then(dO,(raw.length:Int),67) else bif judE j (ar raw j) s != 0 then(dO,(posN j:Int),judE j (ar raw j) s) else
   di n (raw.drop (posN (j+1))) (posN (j+1):Int) (cV j (judL j (ar raw j) l)) (judL j (ar raw j) l) (judH j (ar raw j) hd) (judS j (ar raw j) s) cs:=by
 have hs:=gO hj
 have e1:decide ((raw.drop (posN j)).length<ay j)=decide ((raw.length:Int)<(posN (j+1):Int)):=by
  rw[decide_eq_decide,List.length_drop];omega
 have e9:(j==9)=false:=by simp;omega
 have e7:(if j=7 then cs++[ar raw j] else cs)=cs:=if_neg (by omega)
 have e2:(posN j:Int)+((raw.drop (posN j)).length:Int)=(raw.length:Int):=by rw[List.length_drop];omega
 have e3:(raw.drop (posN j)).drop (ay j)=raw.drop (posN (j+1)):=by rw[List.drop_drop,hs]
 have e4:(posN j:Int)+(ay j:Int)=(posN (j+1):Int):=by omega
 rw[di]
 show(bif decide ((raw.drop (posN j)).length<ay j) then _ else bif judE j (ar raw j) s != 0 then(dO,_,judE j (ar raw j) s) else di n _ _ (cV j (judL j (ar raw j) l)) (judL j (ar raw j) l) (judH j (ar raw j) hd) (judS j (ar raw j) s) (if j=7 then cs++[ar raw j] else cs))=_
 rw[e1,e9,e7,e2,e3,e4]
 rfl
noncomputable def gy (a0 : List Int) : (Int × Int) → Option (Ctl (Int × Int) (Int ⊕ ab)) := fun (x236, x237) =>
 bif decide (x237<([4,5,6,8,16,24].length:Int)) then
  (idx [4,5,6,8,16,24] x237).bind fun x250=>
  bif decide ((a0.length:Int)<x250) then
   some (.done (.inr (⟨false,(⟨(0:Int),(0:Int),(0:Int)⟩:ae),[],(a0.length:Int),67⟩:ab)))
  else
   (aH a0 x236).bind fun y255=>
   bif y255 != 0 then
    some (.done (.inr (⟨false,(⟨(0:Int),(0:Int),(0:Int)⟩:ae),[],x236,y255⟩:ab)))
   else
    (idx [4,5,6,8,16,24] x237).bind fun x260=>
    some (.next (x260,IntKind.wrap .i64 (x237+1)))
 else
  some (.done (.inl x236))
theorem jQ {raw:List Int} (hb:aI raw) (h30:raw.length<2^30) {j:Nat} (hj:j<6) (s:ah):gy raw ((posN j:Int),(j:Int))=
  bif decide ((raw.length:Int)<(posN (j+1):Int)) then some (.done (.inr ⟨false,⟨0,0,0⟩,[],(raw.length:Int),67⟩)) else bif judE j (ar raw j) s != 0 then some (.done (.inr ⟨false,⟨0,0,0⟩,[],(posN j:Int),judE j (ar raw j) s⟩)) else some (.next ((posN (j+1):Int),((j+1:Nat):Int))):=by
 unfold gy
 have h1:decide ((j:Int)<([4,5,6,8,16,24].length:Int))=true:=decide_eq_true (by simp;omega)
 have hi:idx [4,5,6,8,16,24] (j:Int)=some (posN (j+1):Int):=by
  match j,hj with
  |0,_|1,_|2,_|3,_|4,_|5,_=>rfl
 simp only[h1,cond_true,hi,au]
 cases hs:decide ((raw.length:Int)<(posN (j+1):Int)) with
 |true=>rfl
 |false=>
  have hs:=of_decide_eq_false hs
  simp only[cond_false]
  rw[lv hb h30 hj (by omega) s rfl,wrap64 (by omega)]
  rfl
def ansJ (J:ab):aq×Int×Int:=bif J.Err != 0 then(dO,J.Place,J.Err) else(⟨J.Header,J.Cells⟩,0,0)
theorem jR {j:Nat} (hj:j<6) (w:List Int) (s t:ah):judE j w s=judE j w t:=by
 match j,hj with
 |0,_|1,_|2,_|3,_|4,_|5,_=>rfl
def goL (raw:List Int):Nat→Nat→Int→Int
 |0,_,l=>l
 |k+1,j,l=>goL raw k (j+1) (judL j (ar raw j) l)
def goH (raw:List Int):Nat→Nat→ae→ae
 |0,_,h=>h
 |k+1,j,h=>goH raw k (j+1) (judH j (ar raw j) h)
def goS (raw:List Int):Nat→Nat→ah→ah
 |0,_,s=>s
 |k+1,j,s=>goS raw k (j+1) (judS j (ar raw j) s)
theorem lL {raw:List Int} (hb:aI raw) (h30:raw.length<2^30):∀(k j:Nat) (n:Nat) (l:Int) (hd:ae) (s:ah),j+k=5→posN j≤raw.length→raw.length<n+posN j→
  ∃r,Loop.run (gy raw) ((posN j:Int),(j:Int))=some r∧
   ((∃J:ab,r= .inr J∧J.Err≠0∧di n (raw.drop (posN j)) (posN j:Int) j l hd s []=(dO,J.Place,J.Err))∨
    (r= .inl 24∧24≤raw.length∧(∀i,j≤i→i<6→judE i (ar raw i) ⟨1,0⟩=0)∧
     ∃m,raw.length<m+24∧di n (raw.drop (posN j)) (posN j:Int) j l hd s []=di m (raw.drop 24) 24 (cV 5 (goL raw (k+1) j l)) (goL raw (k+1) j l) (goH raw (k+1) j hd) (goS raw (k+1) j s) [])):=by
 intro k
 induction k with
 |zero=>
  intro j n l hd s hjk hp hn
  have hj5:j=5:=by omega
  subst hj5
  obtain⟨n,rfl⟩:∃q,n=q+1:=⟨n - 1,by omega⟩
  have st:=jQ hb h30 (j:=5) (by omega) s
  rw[jP (by omega) hp]
  cases hs:decide ((raw.length:Int)<(posN (5+1):Int)) with
  |true=>
   rw[hs,cond_true] at st
   exact⟨_,Loop.run_done st,.inl ⟨_,rfl,(by show(67:Int)≠0;decide),rfl⟩⟩
  |false=>
   have hs':=of_decide_eq_false hs
   have h24:24≤raw.length:=by have:(posN (5+1):Int)=24:=rfl;omega
   rw[hs,cond_false] at st
   rw[cond_false]
   cases he:judE 5 (ar raw 5) s != 0 with
   | true =>
     rw[he,cond_true] at st
     exact⟨_,Loop.run_done st,.inl ⟨_,rfl,by simpa using he,rfl⟩⟩
   | false =>
     rw[he,cond_false] at st
     rw[cond_false,Loop.run_next st]
     refine⟨.inl 24,Loop.run_done rfl,.inr ⟨rfl,h24,fun i h1 h2=>?_,n,?_,rfl⟩⟩
     · have:i=5:=by omega
       subst this
       rw[jR (by omega) _ _ s];simpa using he
     · have:posN 5=16:=rfl
       omega
 |succ k ih=>
  intro j n l hd s hjk hp hn
  have hj:j<5:=by omega
  obtain⟨n,rfl⟩:∃q,n=q+1:=⟨n - 1,by omega⟩
  have st:=jQ hb h30 (j:=j) (by omega) s
  have hps:=gO (j:=j) (by omega)
  have hsz:=dQ (i:=j) (by omega)
  rw[jP (by omega) hp]
  cases hs:decide ((raw.length:Int)<(posN (j+1):Int)) with
  |true=>
   rw[hs,cond_true] at st
   exact⟨_,Loop.run_done st,.inl ⟨_,rfl,(by show(67:Int)≠0;decide),rfl⟩⟩
  |false=>
   have hs':=of_decide_eq_false hs
   rw[hs,cond_false] at st
   rw[cond_false]
   cases he:judE j (ar raw j) s != 0 with
   | true =>
     rw[he,cond_true] at st
     exact⟨_,Loop.run_done st,.inl ⟨_,rfl,by simpa using he,rfl⟩⟩
   | false =>
     rw[he,cond_false] at st
     rw[cond_false,Loop.run_next st]
     have hnx:cV j (judL j (ar raw j) l)=j+1:=if_neg (by omega)
     rw[hnx]
     obtain⟨r,h1,h2⟩:=ih (j+1) n (judL j (ar raw j) l) (judH j (ar raw j) hd) (judS j (ar raw j) s) (by omega) (by omega) (by omega)
     refine⟨r,h1,?_⟩
     rcases h2 with h2|⟨a1,a2,a3,a4⟩
     · exact .inl h2
     · refine .inr ⟨a1,a2,fun i h3 h4=>?_,a4⟩
       by_cases hi:i=j
       · subst hi
         rw[jR (by omega) _ _ s];simpa using he
       · exact a3 i (by omega) h4
theorem jS:∀(k:Nat) (w:List Int),w.length=k→k≤7→aI w→numS (bigS w) k=w
 |0,w,h,_,_=>by
  have:w=[]:=List.eq_nil_of_length_eq_zero h
  subst this;rfl
 |k+1,w,h,hk,hb=>by
  have hne:w≠[]:=by intro e;subst e;simp at h
  have hp:w=w.dropLast++[w.getLast hne]:=(List.dropLast_concat_getLast hne).symm
  have hdl:w.dropLast.length=k:=by simp[h]
  have hdb:aI w.dropLast:=fun b hbm=>hb b (List.dropLast_subset w hbm)
  have ih:=jS k w.dropLast hdl (by omega) hdb
  have hl:=hb _ (List.getLast_mem hne)
  obtain⟨v,h1,h2⟩:=cm k w.dropLast hdl (by omega) hdb
  obtain⟨b,hbn⟩:∃b:Nat,w.getLast hne=b:=⟨(w.getLast hne).toNat,by omega⟩
  have e:bigS w=((v*256+b:Nat):Int):=by
   rw[hp,iZ (.inl (by omega)) hdb hl (by omega),h1,hbn];omega
  rw[e,i9 _ k (by omega)]
  have e1:(v*256+b) / 256=v:=by omega
  have e2:(v*256+b)%256=b:=by omega
  rw[e1,e2,←h1,ih,←hbn]
  exact hp.symm
theorem mj {w:List Int} {s:ah} (hb:aI w) (hl:w.length=4) (hs:ga s):(w != numS (dj s) 4)=(bigS w != dj s):=by
 have hf:=fB s
 obtain⟨v,hv⟩:∃v:Nat,dj s=v:=⟨(dj s).toNat,by omega⟩
 have h2:bigS (numS (dj s) 4)=dj s:=by
   rw[hv];exact jX 4 v (by omega) (by omega) (by omega)
 rw[Bool.eq_iff_iff]
 simp only[bne_iff_ne,ne_eq]
 constructor
 · intro h e
   apply h
   rw[←e]
   exact(jS 4 w hl (by omega) hb).symm
 · intro h e
   apply h
   rw[e];exact h2
theorem lw {raw:List Int} (hb:aI raw) (h30:raw.length<2^30) {a:Nat} (ha:a≤raw.length) (H:ae) (cs:List (List Int)) {n:Nat} (hn:raw.length<n+a):
  ∃J,bi raw (a:Int) ⟨true,H,cs,0,0⟩=some J∧ansJ J=di n (raw.drop a) (a:Int) 8 0 H (sum0 (raw.take a)) cs:=by
 obtain⟨n,rfl⟩:∃q,n=q+1:=⟨n - 1,by omega⟩
 unfold bi
 rw[wrap64 (x:=(a:Int)+4) (by omega),di]
 have e8:ay 8=4:=rfl
 have e1:decide ((raw.drop a).length<ay 8)=decide ((raw.length:Int)<(a:Int)+4):=by
  rw[decide_eq_decide,List.length_drop,e8];omega
 rw[e1]
 cases hs:decide ((raw.length:Int)<(a:Int)+4) with
 |true=>
  refine⟨_,rfl,?_⟩
  have e2:(a:Int)+((raw.drop a).length:Int)=(raw.length:Int):=by rw[List.length_drop];omega
  show(dO,(raw.length:Int),(67:Int))=(dO,(a:Int)+((raw.drop a).length:Int),67)
  rw[e2]
 |false=>
  have hs:=of_decide_eq_false hs
  rw[cond_false,cond_false,jZ (h:=(a:Int)) (j:=a) rfl ha]
  simp only[au]
  rw[jW (cn hb a) (by simp;omega)]
  simp only[au]
  rw[fO (l:=(a:Int)) (h:=(a:Int)+4) (i:=a) (j:=a+4) rfl (by omega) (by omega) (by omega)]
  have ew:(raw.take (a+4)).drop a=(raw.drop a).take 4:=by rw[List.drop_take];congr 1;omega
  have hw4:((raw.drop a).take 4).length=4:=by simp;omega
  have hwb:aI ((raw.drop a).take 4):=cn (fi hb a) 4
  rw[ew,e8]
  simp only[au]
  rw[ib hwb,ib (dI _ _),mj hwb hw4 (im (cn hb a))]
  have ej:judE 8 ((raw.drop a).take 4) (sum0 (raw.take a))=bif bigS ((raw.drop a).take 4) != dj (sum0 (raw.take a)) then 65 else 0:=rfl
  rw[ej]
  cases hc:bigS ((raw.drop a).take 4) != dj (sum0 (raw.take a)) with
  |true=>exact⟨_,rfl,rfl⟩
  |false=>
   simp only[cond_false,bne_self_eq_false]
   obtain⟨n,rfl⟩:∃q,n=q+1:=⟨n - 1,by omega⟩
   rw[di]
   have e9:decide (((raw.drop a).drop 4).length<ay (cV 8 (judL 8 ((raw.drop a).take 4) 0)))= !decide ((raw.length:Int)>(a:Int)+4):=by
    have:ay (cV 8 (judL 8 ((raw.drop a).take 4) 0))=1:=rfl
    rw[this]
    cases hd:decide ((raw.length:Int)>(a:Int)+4) with
    |true=>have:=of_decide_eq_true hd;exact decide_eq_false (by simp;omega)
    |false=>have:=of_decide_eq_false hd;exact decide_eq_true (by simp;omega)
   rw[e9]
   cases hd:decide ((raw.length:Int)>(a:Int)+4) with
   |true=>exact⟨_,rfl,rfl⟩
   |false=>exact⟨_,rfl,rfl⟩
end Go.Proofs.YtdkfkpbijdimkaaGreatDoor
