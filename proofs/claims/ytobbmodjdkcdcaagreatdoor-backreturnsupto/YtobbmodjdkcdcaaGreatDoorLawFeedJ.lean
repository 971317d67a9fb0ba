import Derived.Test.YtobbmodjdkcdcaaGreatDoorLawFeedR
set_option linter.unusedVariables false
set_option linter.unusedSimpArgs false
set_option linter.unusedSectionVars false
set_option maxRecDepth 20000
set_option maxHeartbeats 1000000
namespace Go.Proofs.YtobbmodjdkcdcaaGreatDoor
open Go Go.Sim
variable [Fu]
def posN (j:Nat):Nat:=[0,4,5,6,8,16,24].getD j 0
def aU (raw:List Int) (j:Nat):List Int:=(raw.drop (posN j)).take (bl j)
theorem pz {j:Nat} (h:j<6):posN (j+1)=posN j+bl j:=by
 match j,h with
 |0,_|1,_|2,_|3,_|4,_|5,_=>rfl
theorem sx {w:List Int} (hb:aS w) (h8:w.length=8):bigS w=bigS (w.take 7)*256+w.getD 7 0:=by
 have e:w=w.take 7++[w.getD 7 0]:=by
  have:=List.take_succ_eq_append_getElem (l:=w) (i:=7) (by omega)
  rw[List.take_of_length_le (by omega)] at this
  simp only[List.getD,List.getElem?_eq_getElem (show 7<w.length by omega),Option.getD_some]
  exact this
 have hp:(w.take 7).length=7:=by simp;omega
 obtain⟨v,h1,h2⟩:=fC 7 (w.take 7) hp (by omega) (fD hb 7)
 have hg:=hQ hb 7
 obtain⟨c,hc⟩:∃c:Nat,w.getD 7 0=c:=⟨(w.getD 7 0).toNat,by omega⟩
 have e2:bigS (w.take 7++[w.getD 7 0])=orI .u64 (shlI .u64 (bigS (w.take 7)) 8) (IntKind.wrap .u64 (w.getD 7 0)):=by
  unfold bigS;rw[List.foldl_append];rfl
 rw[←e] at e2
 rw[e2,h1,hc,tF (by omega) (by omega)]
 omega
theorem wW {w:List Int} (hb:aS w) (h8:w.length=8) {c:Int} (h0:0≤c) (hc:c<9223372036854775807):(decide (kl w<0)||decide (kl w>c))=decide (bigS w>c):=by
 have hl:=sx hb h8
 have hg:=hQ hb 7
 obtain⟨g1,g2⟩:=oV hb (by omega)
 unfold kl
 have d8:decide ((8:Nat)=8)=true:=rfl
 rw[h8,d8,Bool.true_and]
 cases h7:decide (bigS (w.take 7)≥36028797018963968) with
 |true=>
  have h7:=of_decide_eq_true h7
  have e:decide (bigS w>c)=true:=decide_eq_true (by omega)
  rw[e];rfl
 |false=>
  simp only[cond_false]
  have e:decide (bigS w<0)=false:=decide_eq_false (by omega)
  rw[e,Bool.false_or]
theorem tv {w:List Int} (h2:w.length=2):kl w=bigS w:=by
 unfold kl
 rw[h2];rfl
theorem ut {w:List Int} (hb:aS w) (h8:w.length=8) (h:bigS w≤4611686018427387904):kl w=bigS w:=by
 have hl:=sx hb h8
 have hg:=hQ hb 7
 unfold kl
 have e:decide (bigS (w.take 7)≥36028797018963968)=false:=decide_eq_false (by omega)
 rw[e,Bool.and_false];rfl
theorem qZ {raw:List Int} {j i:Nat} (hi:i<bl j):(aU raw j).getD i 0=raw.getD (posN j+i) 0:=by
 simp[aU,List.getD,List.getElem?_take,List.getElem?_drop,hi]
theorem nf {raw:List Int} {j:Nat} (hj:j<6) (h:posN (j+1)≤raw.length):(aU raw j).length=bl j:=by
 rw[pz hj] at h
 simp[aU];omega
theorem qa {raw:List Int} (hb:aS raw) (j:Nat):aS (aU raw j):=fD (l9 hb _) _
theorem xz {raw:List Int} (hb:aS raw) (h30:raw.length<2^30) {j:Nat} (hj:j<6) (hl:posN (j+1)≤raw.length) (s:ak) {z:Int} (hz:z=posN j):cb raw z=some (judE j (aU raw j) s):=by
 have hfl:=nf hj hl
 have hfb:=qa hb j
 match j,hj with
 |0,_=>
  have hz:z=0:=hz
  have hl:4≤raw.length:=hl
  subst hz
  unfold cb
  rw[jy (h:=4) (j:=4) rfl hl]
  have e:raw.take 4=aU raw 0:=rfl
  rw[e]
  simp only[af,Int.reduceBEq,cond_true,qt hfb,judE]
  cases aU raw 0 != [67,72,82,78] with
  |true=>rfl
  |false=>rfl
 |1,_=>
  have hz:z=4:=hz
  have hl:5≤raw.length:=hl
  subst hz
  unfold cb
  have e:(aU raw 1).getD 0 0=raw.getD 4 0:=qZ (by decide)
  rw[ar (z:=4) (i:=4) rfl (by omega)]
  simp only[af,Int.reduceBEq,cond_true,cond_false,judE,e]
  cases raw.getD 4 0 != 1 with
  |true=>rfl
  |false=>rfl
 |2,_=>
  have hz:z=5:=hz
  have hl:6≤raw.length:=hl
  subst hz
  unfold cb
  have e:(aU raw 2).getD 0 0=raw.getD 5 0:=qZ (by decide)
  rw[ar (z:=5) (i:=5) rfl (by omega)]
  simp only[af,Int.reduceBEq,cond_true,cond_false,judE,e]
  cases decide (raw.getD 5 0>8) with
  |true=>rfl
  |false=>rfl
 |3,_=>
  have hz:z=6:=hz
  have hl:8≤raw.length:=hl
  subst hz
  unfold cb
  have e:(raw.drop 6).take 2=aU raw 3:=rfl
  rw[km (z:=6) (y:=2) (a:=6) (k:=2) rfl rfl (by omega) (by omega) (by omega) h30 hb,e,tv hfl]
  simp only[af,Int.reduceBEq,cond_true,cond_false,judE]
  cases decide (bigS (aU raw 3)>256) with
  |true=>rfl
  |false=>rfl
 |4,_=>
  have hz:z=8:=hz
  have hl:16≤raw.length:=hl
  subst hz
  unfold cb
  have e:(raw.drop 8).take 8=aU raw 4:=rfl
  rw[km (z:=8) (y:=8) (a:=8) (k:=8) rfl rfl (by omega) (by omega) (by omega) h30 hb,e]
  have hc:=wW hfb hfl (c:=4611686018427387903) (by omega) (by omega)
  have hd:decide (kl (aU raw 4)≥4611686018427387904)=decide (kl (aU raw 4)>4611686018427387903):=by
   rw[decide_eq_decide];omega
  simp only[af,Int.reduceBEq,cond_true,cond_false,judE,hd,hc]
  cases decide (bigS (aU raw 4)>4611686018427387903) with
  |true=>rfl
  |false=>rfl
 |5,_=>
  have hz:z=16:=hz
  have hl:24≤raw.length:=hl
  subst hz
  unfold cb
  have e:(raw.drop 16).take 8=aU raw 5:=rfl
  rw[km (z:=16) (y:=8) (a:=16) (k:=8) rfl rfl (by omega) (by omega) (by omega) h30 hb,e]
  have hc:=wW hfb hfl (c:=4611686018427387904) (by omega) (by omega)
  simp only[af,Int.reduceBEq,cond_true,cond_false,judE,hc]
  cases decide (bigS (aU raw 5)>4611686018427387904) with
  |true=>rfl
  |false=>rfl
theorem uu {raw:List Int} {j n:Nat} (hj:j<6) (hp:posN j≤raw.length) {l:Int} {hd:ab} {s:ak} {cs:List (List Int)}:
  iD (n+1) (raw.drop (posN j)) (posN j:Int) j l hd s cs=bif decide ((raw.length:Int)<(posN (j+1):Int)) then(jv,(raw.length:Int),67) else bif judE j (aU raw j) s != 0 then(jv,(posN j:Int),judE j (aU raw j) s) else
   iD n (raw.drop (posN (j+1))) (posN (j+1):Int) (ik j (judL j (aU raw j) l)) (judL j (aU raw j) l) (judH j (aU raw j) hd) (judS j (aU raw j) s) cs:=by
 have hs:=pz hj
 have e1:decide ((raw.drop (posN j)).length<bl j)=decide ((raw.length:Int)<(posN (j+1):Int)):=by
  rw[decide_eq_decide,List.length_drop];omega
 have e9:(j==9)=false:=by simp;omega
 have e7:(if j=7 then cs++[aU raw j] else cs)=cs:=if_neg (by omega)
 have e2:(posN j:Int)+((raw.drop (posN j)).length:Int)=(raw.length:Int):=by rw[List.length_drop];omega
 have e3:(raw.drop (posN j)).drop (bl j)=raw.drop (posN (j+1)):=by rw[List.drop_drop,hs]
 have e4:(posN j:Int)+(bl j:Int)=(posN (j+1):Int):=by omega
 rw[iD]
 show(bif decide ((raw.drop (posN j)).length<bl j) then _ else bif judE j (aU raw j) s != 0 then(jv,_,judE j (aU raw j) s) else iD n _ _ (ik j (judL j (aU raw j) l)) (judL j (aU raw j) l) (judH j (aU raw j) hd) (judS j (aU raw j) s) (if j=7 then cs++[aU raw j] else cs))=_
 rw[e1,e9,e7,e2,e3,e4]
 rfl
noncomputable def oU (a0 : List Int) : (Int × Int) → Option (Ctl (Int × Int) (Int ⊕ ae)) := fun (x236, x237) =>
 bif decide (x237<([4,5,6,8,16,24].length:Int)) then
  (idx [4,5,6,8,16,24] x237).bind fun x250=>
  bif decide ((a0.length:Int)<x250) then
   some (.done (.inr (⟨false,(⟨(0:Int),(0:Int),(0:Int)⟩:ab),[],(a0.length:Int),67⟩:ae)))
  else
   (cb a0 x236).bind fun y255=>
   bif y255 != 0 then
    some (.done (.inr (⟨false,(⟨(0:Int),(0:Int),(0:Int)⟩:ab),[],x236,y255⟩:ae)))
   else
    (idx [4,5,6,8,16,24] x237).bind fun x260=>
    some (.next (x260,IntKind.wrap .i64 (x237+1)))
 else
  some (.done (.inl x236))
theorem uv {raw:List Int} (hb:aS raw) (h30:raw.length<2^30) {j:Nat} (hj:j<6) (s:ak):oU raw ((posN j:Int),(j:Int))=
  bif decide ((raw.length:Int)<(posN (j+1):Int)) then some (.done (.inr ⟨false,⟨0,0,0⟩,[],(raw.length:Int),67⟩)) else bif judE j (aU raw j) s != 0 then some (.done (.inr ⟨false,⟨0,0,0⟩,[],(posN j:Int),judE j (aU raw j) s⟩)) else some (.next ((posN (j+1):Int),((j+1:Nat):Int))):=by
 unfold oU
 have h1:decide ((j:Int)<([4,5,6,8,16,24].length:Int))=true:=decide_eq_true (by simp;omega)
 have hi:idx [4,5,6,8,16,24] (j:Int)=some (posN (j+1):Int):=by
  match j,hj with
  |0,_|1,_|2,_|3,_|4,_|5,_=>rfl
 simp only[h1,cond_true,hi,af]
 cases hs:decide ((raw.length:Int)<(posN (j+1):Int)) with
 |true=>rfl
 |false=>
  have hs:=of_decide_eq_false hs
  simp only[cond_false]
  rw[xz hb h30 hj (by omega) s rfl,wrap64 (by omega)]
  rfl
def ansJ (J:ae):ao×Int×Int:=bif J.Err != 0 then(jv,J.Place,J.Err) else(⟨J.Header,J.Cells⟩,0,0)
theorem uw {j:Nat} (hj:j<6) (w:List Int) (s t:ak):judE j w s=judE j w t:=by
 match j,hj with
 |0,_|1,_|2,_|3,_|4,_|5,_=>rfl
def goL (raw:List Int):Nat→Nat→Int→Int
 |0,_,l=>l
 |k+1,j,l=>goL raw k (j+1) (judL j (aU raw j) l)
def goH (raw:List Int):Nat→Nat→ab→ab
 |0,_,h=>h
 |k+1,j,h=>goH raw k (j+1) (judH j (aU raw j) h)
def goS (raw:List Int):Nat→Nat→ak→ak
 |0,_,s=>s
 |k+1,j,s=>goS raw k (j+1) (judS j (aU raw j) s)
theorem yP {raw:List Int} (hb:aS raw) (h30:raw.length<2^30):∀(k j:Nat) (n:Nat) (l:Int) (hd:ab) (s:ak),j+k=5→posN j≤raw.length→raw.length<n+posN j→
  ∃r,Loop.run (oU raw) ((posN j:Int),(j:Int))=some r∧
   ((∃J:ae,r= .inr J∧J.Err≠0∧iD n (raw.drop (posN j)) (posN j:Int) j l hd s []=(jv,J.Place,J.Err))∨
    (r= .inl 24∧24≤raw.length∧(∀i,j≤i→i<6→judE i (aU raw i) ⟨1,0⟩=0)∧
     ∃m,raw.length<m+24∧iD n (raw.drop (posN j)) (posN j:Int) j l hd s []=iD m (raw.drop 24) 24 (ik 5 (goL raw (k+1) j l)) (goL raw (k+1) j l) (goH raw (k+1) j hd) (goS raw (k+1) j s) [])):=by
 intro k
 induction k with
 |zero=>
  intro j n l hd s hjk hp hn
  have hj5:j=5:=by omega
  subst hj5
  obtain⟨n,rfl⟩:∃q,n=q+1:=⟨n - 1,by omega⟩
  have st:=uv hb h30 (j:=5) (by omega) s
  rw[uu (by omega) hp]
  cases hs:decide ((raw.length:Int)<(posN (5+1):Int)) with
  |true=>
   rw[hs,cond_true] at st
   exact⟨_,Loop.run_done st,.inl ⟨_,rfl,(by show(67:Int)≠0;decide),rfl⟩⟩
  |false=>
   have hs':=of_decide_eq_false hs
   have h24:24≤raw.length:=by have:(posN (5+1):Int)=24:=rfl;omega
   rw[hs,cond_false] at st
   rw[cond_false]
   cases he:judE 5 (aU raw 5) s != 0 with
   | true =>
     rw[he,cond_true] at st
     exact⟨_,Loop.run_done st,.inl ⟨_,rfl,by simpa using he,rfl⟩⟩
   | false =>
     rw[he,cond_false] at st
     rw[cond_false,Loop.run_next st]
     refine⟨.inl 24,Loop.run_done rfl,.inr ⟨rfl,h24,fun i h1 h2=>?_,n,?_,rfl⟩⟩
     · have:i=5:=by omega
       subst this
       rw[uw (by omega) _ _ s];simpa using he
     · have:posN 5=16:=rfl
       omega
 |succ k ih=>
  intro j n l hd s hjk hp hn
  have hj:j<5:=by omega
  obtain⟨n,rfl⟩:∃q,n=q+1:=⟨n - 1,by omega⟩
  have st:=uv hb h30 (j:=j) (by omega) s
  have hps:=pz (j:=j) (by omega)
  have hsz:=jx (i:=j) (by omega)
  rw[uu (by omega) hp]
  cases hs:decide ((raw.length:Int)<(posN (j+1):Int)) with
  |true=>
   rw[hs,cond_true] at st
   exact⟨_,Loop.run_done st,.inl ⟨_,rfl,(by show(67:Int)≠0;decide),rfl⟩⟩
  |false=>
   have hs':=of_decide_eq_false hs
   rw[hs,cond_false] at st
   rw[cond_false]
   cases he:judE j (aU raw j) s != 0 with
   | true =>
     rw[he,cond_true] at st
     exact⟨_,Loop.run_done st,.inl ⟨_,rfl,by simpa using he,rfl⟩⟩
   | false =>
     rw[he,cond_false] at st
     rw[cond_false,Loop.run_next st]
     have hnx:ik j (judL j (aU raw j) l)=j+1:=if_neg (by omega)
     rw[hnx]
     obtain⟨r,h1,h2⟩:=ih (j+1) n (judL j (aU raw j) l) (judH j (aU raw j) hd) (judS j (aU raw j) s) (by omega) (by omega) (by omega)
     refine⟨r,h1,?_⟩
     rcases h2 with h2|⟨a1,a2,a3,a4⟩
     · exact .inl h2
     · refine .inr ⟨a1,a2,fun i h3 h4=>?_,a4⟩
       by_cases hi:i=j
       · subst hi
         rw[uw (by omega) _ _ s];simpa using he
       · exact a3 i (by omega) h4
theorem ux:∀(k:Nat) (w:List Int),w.length=k→k≤7→aS w→numS (bigS w) k=w
 |0,w,h,_,_=>by
  have:w=[]:=List.eq_nil_of_length_eq_zero h
  subst this;rfl
 |k+1,w,h,hk,hb=>by
  have hne:w≠[]:=by intro e;subst e;simp at h
  have hp:w=w.dropLast++[w.getLast hne]:=(List.dropLast_concat_getLast hne).symm
  have hdl:w.dropLast.length=k:=by simp[h]
  have hdb:aS w.dropLast:=fun b hbm=>hb b (List.dropLast_subset w hbm)
  have ih:=ux k w.dropLast hdl (by omega) hdb
  have hl:=hb _ (List.getLast_mem hne)
  obtain⟨v,h1,h2⟩:=fC k w.dropLast hdl (by omega) hdb
  obtain⟨b,hbn⟩:∃b:Nat,w.getLast hne=b:=⟨(w.getLast hne).toNat,by omega⟩
  have e:bigS w=((v*256+b:Nat):Int):=by
   rw[hp,sy (.inl (by omega)) hdb hl (by omega),h1,hbn];omega
  rw[e,sB _ k (by omega)]
  have e1:(v*256+b) / 256=v:=by omega
  have e2:(v*256+b)%256=b:=by omega
  rw[e1,e2,←h1,ih,←hbn]
  exact hp.symm
theorem Ab {w:List Int} {s:ak} (hb:aS w) (hl:w.length=4) (hs:nQ s):(w != numS (iR s) 4)=(bigS w != iR s):=by
 have hf:=mO s
 obtain⟨v,hv⟩:∃v:Nat,iR s=v:=⟨(iR s).toNat,by omega⟩
 have h2:bigS (numS (iR s) 4)=iR s:=by
   rw[hv];exact uM 4 v (by omega) (by omega) (by omega)
 rw[Bool.eq_iff_iff]
 simp only[bne_iff_ne,ne_eq]
 constructor
 · intro h e
   apply h
   rw[←e]
   exact(ux 4 w hl (by omega) hb).symm
 · intro h e
   apply h
   rw[e];exact h2
theorem xF {raw:List Int} (hb:aS raw) (h30:raw.length<2^30) {a:Nat} (ha:a≤raw.length) (H:ab) (cs:List (List Int)) {n:Nat} (hn:raw.length<n+a):
  ∃J,da raw (a:Int) ⟨true,H,cs,0,0⟩=some J∧ansJ J=iD n (raw.drop a) (a:Int) 8 0 H (sum0 (raw.take a)) cs:=by
 obtain⟨n,rfl⟩:∃q,n=q+1:=⟨n - 1,by omega⟩
 unfold da
 rw[wrap64 (x:=(a:Int)+4) (by omega),iD]
 have e8:bl 8=4:=rfl
 have e1:decide ((raw.drop a).length<bl 8)=decide ((raw.length:Int)<(a:Int)+4):=by
  rw[decide_eq_decide,List.length_drop,e8];omega
 rw[e1]
 cases hs:decide ((raw.length:Int)<(a:Int)+4) with
 |true=>
  refine⟨_,rfl,?_⟩
  have e2:(a:Int)+((raw.drop a).length:Int)=(raw.length:Int):=by rw[List.length_drop];omega
  show(jv,(raw.length:Int),(67:Int))=(jv,(a:Int)+((raw.drop a).length:Int),67)
  rw[e2]
 |false=>
  have hs:=of_decide_eq_false hs
  rw[cond_false,cond_false,jy (h:=(a:Int)) (j:=a) rfl ha]
  simp only[af]
  rw[uJ (fD hb a) (by simp;omega)]
  simp only[af]
  rw[jn (l:=(a:Int)) (h:=(a:Int)+4) (i:=a) (j:=a+4) rfl (by omega) (by omega) (by omega)]
  have ew:(raw.take (a+4)).drop a=(raw.drop a).take 4:=by rw[List.drop_take];congr 1;omega
  have hw4:((raw.drop a).take 4).length=4:=by simp;omega
  have hwb:aS ((raw.drop a).take 4):=fD (l9 hb a) 4
  rw[ew,e8]
  simp only[af]
  rw[qt hwb,qt (kn _ _),Ab hwb hw4 (q6 (fD hb a))]
  have ej:judE 8 ((raw.drop a).take 4) (sum0 (raw.take a))=bif bigS ((raw.drop a).take 4) != iR (sum0 (raw.take a)) then 65 else 0:=rfl
  rw[ej]
  cases hc:bigS ((raw.drop a).take 4) != iR (sum0 (raw.take a)) with
  |true=>exact⟨_,rfl,rfl⟩
  |false=>
   simp only[cond_false,bne_self_eq_false]
   obtain⟨n,rfl⟩:∃q,n=q+1:=⟨n - 1,by omega⟩
   rw[iD]
   have e9:decide (((raw.drop a).drop 4).length<bl (ik 8 (judL 8 ((raw.drop a).take 4) 0)))= !decide ((raw.length:Int)>(a:Int)+4):=by
    have:bl (ik 8 (judL 8 ((raw.drop a).take 4) 0))=1:=rfl
    rw[this]
    cases hd:decide ((raw.length:Int)>(a:Int)+4) with
    |true=>have:=of_decide_eq_true hd;exact decide_eq_false (by simp;omega)
    |false=>have:=of_decide_eq_false hd;exact decide_eq_true (by simp;omega)
   rw[e9]
   cases hd:decide ((raw.length:Int)>(a:Int)+4) with
   |true=>exact⟨_,rfl,rfl⟩
   |false=>exact⟨_,rfl,rfl⟩
end Go.Proofs.YtobbmodjdkcdcaaGreatDoor
