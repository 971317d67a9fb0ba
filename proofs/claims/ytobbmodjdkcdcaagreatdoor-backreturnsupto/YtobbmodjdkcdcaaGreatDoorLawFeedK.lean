import Derived.Test.YtobbmodjdkcdcaaGreatDoorLawFeedJ
set_option linter.unusedVariables false
set_option linter.unusedSimpArgs false
set_option linter.unusedSectionVars false
set_option maxRecDepth 20000
set_option maxHeartbeats 1000000
namespace Go.Proofs.YtobbmodjdkcdcaaGreatDoor
open Go Go.Sim
variable [Fu]
noncomputable def jw (a0 : List Int) (y53 : Int) (H : ab) : (Int × Int × (List (List Int))) → Option (Ctl (Int × Int × (List (List Int))) ((ae × Int) ⊕ ae)) := fun (x171, x172, x174) =>
 bif decide (x172<y53) then
  ((bif decide ((a0.length:Int)≥(IntKind.wrap .i64 (x171+2))) then
   (bq a0 x171 2).bind fun y199=>
   some (y199 != 320)
  else
   some false
   :Option Bool)).bind fun x198=>
  bif x198 then
   some (.done (.inr (⟨true,H,x174,x171,64⟩:ae)))
  else
   bif decide ((a0.length:Int)<(IntKind.wrap .i64 ((IntKind.wrap .i64 (x171+2))+320))) then
    some (.done (.inr (⟨true,H,x174,(a0.length:Int),67⟩:ae)))
   else
    (sub a0 (IntKind.wrap .i64 (x171+2)) (IntKind.wrap .i64 ((IntKind.wrap .i64 (x171+2))+320))).bind fun x208=>
    (ei x208).bind fun y210=>
    (app x174 [y210]).bind fun z212=>
    some (.next (IntKind.wrap .i64 ((IntKind.wrap .i64 (x171+2))+320),IntKind.wrap .i64 (x172+1),z212))
 else
  some (.done (.inl ((⟨true,H,x174,(0:Int),(0:Int)⟩:ae),x171)))
noncomputable def finJ (raw : List Int) : (ae × Int) ⊕ ae → Option ae
 | .inl q=>da raw q.2 q.1
 | .inr J=>some J
theorem uy (p q:List Int):addS (sum0 p) q=sum0 (p++q):=by simp[sum0,addS]
theorem xK {raw:List Int} (hb:aS raw) (h30:raw.length<2^30) (H:ab) {N:Int} (hN:N≤256):∀(k a:Nat) (i:Int) (cs:List (List Int)) (n:Nat),a≤raw.length→i+k=N→i=cs.length→raw.length<n+a→
  ∃r J,Loop.run (jw raw N H) ((a:Int),i,cs)=some r∧finJ raw r=some J∧ansJ J=iD n (raw.drop a) (a:Int) (if(k:Int)=0 then 8 else 6) (k:Int) H (sum0 (raw.take a)) cs:=by
 intro k
 induction k with
 |zero=>
  intro a i cs n ha hi hc hn
  have h1:decide (i<N)=false:=decide_eq_false (by omega)
  obtain⟨J,j1,j2⟩:=xF hb h30 ha H cs hn
  refine⟨.inl (⟨true,H,cs,0,0⟩,(a:Int)),J,Loop.run_done (by unfold jw;simp only[h1,cond_false]),j1,j2⟩
 |succ k ih=>
  intro a i cs n ha hi hc hn
  obtain⟨n,rfl⟩:∃q,n=q+1:=⟨n - 1,by omega⟩
  have h1:decide (i<N)=true:=decide_eq_true (by omega)
  have hne:¬(((k+1:Nat):Int)=0):=by omega
  rw[if_neg hne,iD]
  have e6:bl 6=2:=rfl
  have e7:bl 7=320:=rfl
  have w2:IntKind.wrap .i64 ((a:Int)+2)=(a:Int)+2:=wrap64 (by omega)
  have w3:IntKind.wrap .i64 ((a:Int)+2+320)=(a:Int)+322:=by rw[wrap64 (by omega)];omega
  rw[e6]
  by_cases hs:raw.length<a+2
  · have d1:decide ((raw.length:Int)≥(a:Int)+2)=false:=decide_eq_false (by omega)
    have d2:decide ((raw.length:Int)<(a:Int)+322)=true:=decide_eq_true (by omega)
    have d3:decide ((raw.drop a).length<2)=true:=decide_eq_true (by simp;omega)
    refine⟨_,_,Loop.run_done (by unfold jw;simp only[h1,w2,w3,d1,d2,cond_true,cond_false,af];rfl),rfl,?_⟩
    rw[d3,cond_true]
    have e2:(a:Int)+((raw.drop a).length:Int)=(raw.length:Int):=by rw[List.length_drop];omega
    show(jv,(raw.length:Int),(67:Int))=(jv,(a:Int)+((raw.drop a).length:Int),67)
    rw[e2]
  · have d1:decide ((raw.length:Int)≥(a:Int)+2)=true:=decide_eq_true (by omega)
    have d3:decide ((raw.drop a).length<2)=false:=decide_eq_false (by simp;omega)
    have hw2:((raw.drop a).take 2).length=2:=by simp;omega
    have hrd:=km (raw:=raw) (z:=(a:Int)) (y:=2) (a:=a) (k:=2) rfl rfl (by omega) (by omega) (by omega) h30 hb
    rw[tv hw2] at hrd
    rw[d3,cond_false]
    have ej:judE 6 ((raw.drop a).take 2) (sum0 (raw.take a))=bif bigS ((raw.drop a).take 2) != 320 then 64 else 0:=rfl
    rw[ej]
    cases hx:bigS ((raw.drop a).take 2) != 320 with
    |true=>
     refine⟨_,_,Loop.run_done (by unfold jw;simp only[h1,w2,d1,cond_true,hrd,af,hx];rfl),rfl,?_⟩
     rfl
    |false=>
     simp only[cond_false,bne_self_eq_false]
     have st6:ik 6 (judL 6 ((raw.drop a).take 2) ((k+1:Nat):Int))=7:=rfl
     have l6:judL 6 ((raw.drop a).take 2) ((k+1:Nat):Int)=((k+1:Nat):Int):=rfl
     have h6:judH 6 ((raw.drop a).take 2) H=H:=rfl
     have i6:(if(6:Nat)=7 then cs++[(raw.drop a).take 2] else cs)=cs:=rfl
     have s6:judS 6 ((raw.drop a).take 2) (sum0 (raw.take a))=sum0 (raw.take (a+2)):=by
       show addS (sum0 (raw.take a)) ((raw.drop a).take 2)=_
       rw[uy,←List.take_add]
     have dd:(raw.drop a).drop 2=raw.drop (a+2):=by rw[List.drop_drop]
     have aa:(a:Int)+((2:Nat):Int)=((a+2:Nat):Int):=by omega
     rw[st6,l6,h6,i6,s6,dd,aa]
     obtain⟨n,rfl⟩:∃q,n=q+1:=⟨n - 1,by omega⟩
     rw[iD,e7]
     by_cases hs2:raw.length<a+322
     · have d2:decide ((raw.length:Int)<(a:Int)+322)=true:=decide_eq_true (by omega)
       have d4:decide ((raw.drop (a+2)).length<320)=true:=decide_eq_true (by simp;omega)
       refine⟨_,_,Loop.run_done (by unfold jw;simp only[h1,w2,w3,d1,d2,cond_true,hrd,af,hx,cond_false];rfl),rfl,?_⟩
       rw[d4,cond_true]
       have e2:((a+2:Nat):Int)+((raw.drop (a+2)).length:Int)=(raw.length:Int):=by rw[List.length_drop];omega
       show(jv,(raw.length:Int),(67:Int))=(jv,((a+2:Nat):Int)+((raw.drop (a+2)).length:Int),67)
       rw[e2]
     · have d2:decide ((raw.length:Int)<(a:Int)+322)=false:=decide_eq_false (by omega)
       have d4:decide ((raw.drop (a+2)).length<320)=false:=decide_eq_false (by simp;omega)
       rw[d4,cond_false]
       have j7:judE 7 ((raw.drop (a+2)).take 320) (sum0 (raw.take (a+2)))=0:=rfl
       have l7:judL 7 ((raw.drop (a+2)).take 320) ((k+1:Nat):Int)=(k:Int):=by
        show((k+1:Nat):Int) - 1=(k:Int)
        omega
       have h7:judH 7 ((raw.drop (a+2)).take 320) H=H:=rfl
       have i7:(if(7:Nat)=7 then cs++[(raw.drop (a+2)).take 320] else cs)=cs++[(raw.drop (a+2)).take 320]:=rfl
       have s7:judS 7 ((raw.drop (a+2)).take 320) (sum0 (raw.take (a+2)))=sum0 (raw.take (a+322)):=by
        show addS (sum0 (raw.take (a+2))) ((raw.drop (a+2)).take 320)=_
        rw[uy,←List.take_add]
       have dd7:(raw.drop (a+2)).drop 320=raw.drop (a+322):=by rw[List.drop_drop]
       have aa7:((a+2:Nat):Int)+((320:Nat):Int)=((a+322:Nat):Int):=by omega
       have n7:ik 7 (k:Int)=if(k:Int)=0 then 8 else 6:=rfl
       rw[j7,l7,h7,i7,s7,dd7,aa7,n7]
       simp only[bne_self_eq_false,cond_false]
       have ew:(raw.take (a+322)).drop (a+2)=(raw.drop (a+2)).take 320:=by rw[List.drop_take];congr 1;omega
       obtain⟨r,J,q1,q2,q3⟩:=ih (a+322) (i+1) (cs++[(raw.drop (a+2)).take 320]) n (by omega) (by omega) (by simp;omega) (by omega)
       refine⟨r,J,?_,q2,q3⟩
       rw[←q1]
       apply Loop.run_next
       unfold jw
       simp only[h1,w2,w3,d1,d2,cond_true,hrd,af,hx,cond_false]
       rw[jn (l:=(a:Int)+2) (h:=(a:Int)+322) (i:=a+2) (j:=a+322) (by omega) (by omega) (by omega) (by omega),ew]
       simp only[af,ei]
       rw[bK (by rw[iE];simp;omega)]
       simp only[af,List.nil_append]
       rw[bK (by rw[iE];simp;omega),wrap64 (x:=i+1) (by omega)]
       rfl
theorem tx {raw:List Int} (hl:raw.length<2^30) (hb:aS raw):fj raw=some (vY raw):=by
 obtain⟨r,hr,h2⟩:=yP hb hl 5 0 (raw.length+1) 0 ⟨0,0,0⟩ ⟨1,0⟩ (by omega) (by show 0≤_;omega) (by omega)
 have e0:iD (raw.length+1) (raw.drop (posN 0)) (posN 0:Int) 0 0 ⟨0,0,0⟩ ⟨1,0⟩ []=vY raw:=rfl
 rw[e0] at h2
 have hr':Loop.run (oU raw) (0,0)=some r:=hr
 unfold fj ga
 show((((Loop.run (oU raw) (0,0)).bind _).bind _).bind _)=_
 rw[hr']
 rcases h2 with⟨J,rfl,hJ,hf⟩|⟨rfl,h24,hall,m,hm,hf⟩
 · have hJ':(J.Err != 0)=true:=by simpa using hJ
   simp only[af,hJ',cond_true,hf]
   rfl
 · have hfb:=fun j=>qa hb (j:=j)
   have j3:=hall 3 (by omega) (by omega)
   have j4:=hall 4 (by omega) (by omega)
   have j5:=hall 5 (by omega) (by omega)
   have f3:=nf (raw:=raw) (j:=3) (by omega) (by show 8≤_;omega)
   have f4:=nf (raw:=raw) (j:=4) (by omega) (by show 16≤_;omega)
   have f5:=nf (raw:=raw) (j:=5) (by omega) (by show 24≤_;omega)
   have b3:bigS (aU raw 3)≤256:=by
    simp only[judE] at j3
    cases hd:decide (bigS (aU raw 3)>256) with
    |true=>rw[hd] at j3;cases j3
    |false=>have:=of_decide_eq_false hd;omega
   have b4:bigS (aU raw 4)≤4611686018427387903:=by
    simp only[judE] at j4
    cases hd:decide (bigS (aU raw 4)>4611686018427387903) with
    |true=>rw[hd] at j4;cases j4
    |false=>have:=of_decide_eq_false hd;omega
   have b5:bigS (aU raw 5)≤4611686018427387904:=by
    simp only[judE] at j5
    cases hd:decide (bigS (aU raw 5)>4611686018427387904) with
    |true=>rw[hd] at j5;cases j5
    |false=>have:=of_decide_eq_false hd;omega
   have p3:=(oV (hfb 3) (by rw[f3];decide)).1
   have p4:=(oV (hfb 4) (by rw[f4];decide)).1
   have p5:=(oV (hfb 5) (by rw[f5];decide)).1
   have r4:bq raw 8 8=some (bigS (aU raw 4)):=by
    rw[km (z:=8) (y:=8) (a:=8) (k:=8) rfl rfl (by omega) (by omega) (by omega) hl hb]
    show some (kl (aU raw 4))=_
    rw[ut (hfb 4) f4 (by omega)]
   have r5:bq raw 16 8=some (bigS (aU raw 5)):=by
    rw[km (z:=16) (y:=8) (a:=16) (k:=8) rfl rfl (by omega) (by omega) (by omega) hl hb]
    show some (kl (aU raw 5))=_
    rw[ut (hfb 5) f5 (by omega)]
   have r3:bq raw 6 2=some (bigS (aU raw 3)):=by
    rw[km (z:=6) (y:=2) (a:=6) (k:=2) rfl rfl (by omega) (by omega) (by omega) hl hb]
    show some (kl (aU raw 3))=_
    rw[tv f3]
   have g5:=hQ hb 5
   have r2:idx raw 5=some (raw.getD 5 0):=ar (z:=5) (i:=5) rfl (by omega)
   obtain⟨N,hN⟩:∃N:Nat,bigS (aU raw 3)=N:=⟨(bigS (aU raw 3)).toNat,by omega⟩
   have hL:goL raw 6 0 0=(N:Int):=by rw[←hN];rfl
   have hH:goH raw 6 0 ⟨0,0,0⟩=⟨bigS (aU raw 4),bigS (aU raw 5),raw.getD 5 0⟩:=by
    have e:(aU raw 2).getD 0 0=raw.getD 5 0:=qZ (by decide)
    show(⟨IntKind.wrap .i64 (bigS (aU raw 4)),IntKind.wrap .i64 (bigS (aU raw 5)),(aU raw 2).getD 0 0⟩:ab)=_
    rw[wrap64 (by omega),wrap64 (by omega),e]
   have hS:goS raw 6 0 ⟨1,0⟩=sum0 (raw.take 24):=by
    show addS (addS (addS (addS (addS (addS ⟨1,0⟩ (aU raw 0)) (aU raw 1)) (aU raw 2)) (aU raw 3)) (aU raw 4)) (aU raw 5)=_
    simp only[←qb,sum0]
    congr 1
    simp only[aU,posN,bl]
    show(raw.drop 0).take 4++(raw.drop 4).take 1++(raw.drop 5).take 1++(raw.drop 6).take 2++(raw.drop 8).take 8++(raw.drop 16).take 8=raw.take 24
    rw[List.drop_zero,←List.take_add,←List.take_add,←List.take_add,←List.take_add,←List.take_add]
   rw[hf,hL,hH,hS]
   have n5:ik 5 (N:Int)=if(N:Int)=0 then 8 else 6:=rfl
   obtain⟨r,J,q1,q2,q3⟩:=xK hb hl ⟨bigS (aU raw 4),bigS (aU raw 5),raw.getD 5 0⟩ (N:=(N:Int)) (by omega) N 24 0 [] m h24 (by omega) rfl hm
   have q3':ansJ J=iD m (raw.drop 24) 24 (if(N:Int)=0 then 8 else 6) (N:Int) ⟨bigS (aU raw 4),bigS (aU raw 5),raw.getD 5 0⟩ (sum0 (raw.take 24)) []:=q3
   rw[n5,←q3']
   simp only[af,r4,r5,r3,r2,hN]
   rw[wrap64 (x:=raw.getD 5 0) (by omega)]
   show((((Loop.run (jw raw (N:Int) ⟨bigS (aU raw 4),bigS (aU raw 5),raw.getD 5 0⟩) (24,0,[])).bind _).bind _).bind _)=_
   have q1':Loop.run (jw raw (N:Int) ⟨bigS (aU raw 4),bigS (aU raw 5),raw.getD 5 0⟩) (24,0,[])=some r:=q1
   rw[q1']
   cases r with
   |inl q=>
    obtain⟨J0,a0⟩:=q
    have q2:da raw a0 J0=some J:=q2
    simp only[af,q2,ansJ]
    cases hc:J.Err != 0 with
    |true=>rfl
    |false=>rfl
   |inr J0=>
    have q2:(some J0:Option ae)=some J:=q2
    cases q2
    simp only[af,ansJ]
    cases hc:J.Err != 0 with
    |true=>rfl
    |false=>rfl
end Go.Proofs.YtobbmodjdkcdcaaGreatDoor
