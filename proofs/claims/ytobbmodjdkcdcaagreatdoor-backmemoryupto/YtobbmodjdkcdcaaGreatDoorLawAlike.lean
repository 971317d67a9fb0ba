import Derived.Test.YtobbmodjdkcdcaaGreatDoorLawMix
set_option linter.unusedVariables false
set_option linter.unusedSimpArgs false
set_option linter.unusedSectionVars false
set_option maxRecDepth 20000
set_option maxHeartbeats 1000000
namespace Go.Proofs.YtobbmodjdkcdcaaGreatDoor
open Go Go.Sim
variable [Fu]
theorem w9 {w:aa} (hw:dt w):de w w=some true:=by
 have hl:=hw.eps
 unfold de
 simp only[bne_self_eq_false,Bool.or_self,cond_false]
 rw [aV (s0 := (0 : Int)) (r := (.inl () : Unit ⊕ Bool)) (fun i => (i : Int)) 0 w.Epochs.length (Nat.zero_le _) ?_ ?_ rfl]
 · rfl
 · intro i _ hi
   have h1:decide ((i:Int)<(w.Epochs.length:Int))=true:=decide_eq_true (by omega)
   have hx:=hw.ofEp (List.getElem_mem hi)
   simp only[h1,cond_true]
   rw[dK hi]
   simp only[ae,bne_self_eq_false,Bool.or_self,cond_false]
   rw [aV (s0 := (0 : Int)) (r := (.inl () : Unit ⊕ Bool)) (fun i => (i : Int)) 0 w.Epochs[i].Tags.length (Nat.zero_le _) ?_ ?_ rfl]
   · simp only[ae]
     rw[wrap64 (by omega)];rfl
   · intro k _ hk
     have h1:decide ((k:Int)<(w.Epochs[i].Tags.length:Int))=true:=decide_eq_true (by omega)
     simp only[h1,cond_true]
     rw[dK hk]
     simp only[ae,bne_self_eq_false,cond_false]
     rw[wrap64 (by omega)];rfl
   · have h1:decide ((w.Epochs[i].Tags.length:Int)<(w.Epochs[i].Tags.length:Int))=false:=decide_eq_false (by omega)
     simp only[h1,cond_false]
 · have h1:decide ((w.Epochs.length:Int)<(w.Epochs.length:Int))=false:=decide_eq_false (by omega)
   simp only[h1,cond_false]
theorem ym {s:aq} (hw:dt s.Window):dk s s=some true:=by
 unfold dk
 rw[w9 hw]
 simp only[beq_self_eq_true,cond_true,ae]
theorem Bn {b:aE} {out:List Int} (h:kV b=(out,0)):out=uN b∧InvH b.Header∧b.Cells.length≤256∧∀c∈b.Cells,c.length=320:=by
 unfold kV at h
 cases h1: !qU b.Header with
 |true=>rw[h1,cond_true] at h;cases h
 |false=>
  rw[h1,cond_false] at h
  cases h2:decide ((b.Cells.length:Int)>256) with
  |true=>rw[h2,cond_true] at h;cases h
  |false=>
   rw[h2,cond_false] at h
   have h2:=of_decide_eq_false h2
   cases h3:b.Cells.all fun c=>c.length==320 with
   |false=>rw[h3,cond_false] at h;cases h
   |true=>
    rw[h3,cond_true] at h
    cases h
    have h1:qU b.Header=true:=by simpa using h1
    unfold qU at h1
    simp only[Bool.and_eq_true,decide_eq_true_eq] at h1
    refine⟨rfl,⟨by omega,by omega,by omega⟩,by omega,fun c hc=>?_⟩
    have:=List.all_eq_true.1 h3 c hc
    simpa using this
theorem ng {c:am} {acc:List an} {t:List Int} {cells:List (List Int)} {k:Int} (h:fo c acc t=(cells,k,0)):
  (iB c t).2=0∧(dp c t).2=0∧(gW c t).2=0∧cells=acc.map (·.Cell)++(gW c t).1∧k=(dp c t).1∧0≤k∧k≤16∧((gW c t).1.length:Int)=k:=by
 unfold fo at h
 cases h1:(iB c t).2 != 0 with
 |true=>rw[h1,cond_true] at h;have e:=(Prod.mk.inj (Prod.mk.inj h).2).2;rw[e] at h1;cases h1
 |false=>
  rw[h1,cond_false] at h
  cases h2:(dp c t).2 != 0 with
  |true=>rw[h2,cond_true] at h;have e:=(Prod.mk.inj (Prod.mk.inj h).2).2;rw[e] at h2;cases h2
  |false=>
   rw[h2,cond_false] at h
   cases h3:decide ((IntKind.wrap .i64 ((acc.length:Int)+(dp c t).1))>256) with
   |true=>rw[h3,cond_true] at h;cases h
   |false=>
    rw[h3,cond_false] at h
    cases h4:(gW c t).2 != 0 with
    |true=>rw[h4,cond_true] at h;have e:=(Prod.mk.inj (Prod.mk.inj h).2).2;rw[e] at h4;cases h4
    |false=>
     rw[h4,cond_false] at h
     obtain⟨e1,e2⟩:=Prod.mk.inj h
     obtain⟨e2,_⟩:=Prod.mk.inj e2
     have h4':(gW c t).2=0:=by simpa using h4
     have key:0≤(dp c t).1∧(dp c t).1≤16∧((gW c t).1.length:Int)=(dp c t).1:=by
      unfold gW mm at h4'⊢
      cases hc:(((decide ((dp c t).1<0))||(decide ((dp c t).1>16)))||(decide (IntKind.wrap .i64 (c.Left - 1)<0)))||(decide (IntKind.wrap .i64 (c.Left - 1)>7)) with
      |true=>rw[hc,cond_true] at h4';cases h4'
      |false=>
       rw[hc,cond_false] at h4'
       simp only[Bool.or_eq_false_iff,decide_eq_false_iff_not] at hc
       cases hd:decide (((iB c t).1.Noise.length:Int)<18) with
       |true=>rw[hd,cond_true] at h4';cases h4'
       |false=>
        refine⟨by omega,by omega,?_⟩
        simp only[cond_false,List.length_map,List.length_range];omega
     subst e2
     exact⟨by simpa using h1,by simpa using h2,h4',e1.symm,rfl,key⟩
theorem yn {c:am} {s:aq} {w2:aa} {ep:Int} {tags:List (List Int)} (hw:dt s.Window) (hck:el c s=some 0) (hep:gInt .i64 ep)
  (h5:(da s.Window ep c.Span).2=0) (ht:∀t∈tags,t.length=16∧aS t) (hadd:addW (da s.Window ep c.Span).1 ep tags c.Room=(w2,0)):dt w2∧VW w2 c.Span c.Room∧dg c=some true∧c1 c.Span c.Room=true:=by
 obtain⟨z,hz,hz0⟩:=ra (c:=c) hw
 rw[hck] at hz
 cases hz
 obtain⟨hr,hn0,hn1,hc1,hv⟩:=hz0.1 rfl
 have hw1:=oh hw hep (s:=c.Span)
 obtain⟨⟨s1,s2,a1,a2⟩,⟨n1,n2⟩,ho⟩:=B3 h5
 have hv1:VW (da s.Window ep c.Span).1 c.Span c.Room:=by rw[ho];exact xZ hv ⟨a1,a2⟩
 have hnew:(da s.Window ep c.Span).1.Newest=max s.Window.Newest ep:=by rw[ho]
 generalize (da s.Window ep c.Span).1=w1 at*
 have h2:(addW w1 ep tags c.Room).2=0:=by rw[hadd]
 obtain⟨r1,r2,_,⟨e1,e2,e3⟩,hl,hp⟩:=zU h2
 have hp':w2=put w1 ep tags:=by rw[hadd] at hp;exact(Prod.mk.inj hp).1
 have hg:dt w2:=by have:=AX hw1 (ep:=ep) (r:=c.Room) ht;rw[hadd] at this;exact this
 refine⟨hg,?_,hr,hc1⟩
 rw[hp']
 exact vg hv1 ht hw1.tag ⟨e1,e2,by rw[hnew];omega⟩ (Int.le_refl _) hl
theorem beqH (h:ab):(h==h)=true:=by
 show(h.Round==h.Round&&(h.Epoch==h.Epoch&&(h.Left==h.Left&&true)))=true
 simp
end Go.Proofs.YtobbmodjdkcdcaaGreatDoor
