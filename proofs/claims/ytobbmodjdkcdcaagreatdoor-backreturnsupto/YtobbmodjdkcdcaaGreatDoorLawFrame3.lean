import Derived.Test.YtobbmodjdkcdcaaGreatDoorLawFrame2
set_option linter.unusedVariables false
set_option linter.unusedSimpArgs false
set_option maxRecDepth 20000
set_option maxHeartbeats 1000000
namespace Go.Proofs.YtobbmodjdkcdcaaGreatDoor
open Go Go.Sim
set_option linter.unusedSectionVars false
variable [Fu]
def Good320 (cs:List (List Int)):Prop:=∀x∈cs,x.length=320∧aS x
def ko (j:Nat) (l:Int) (c:Nat):Prop:=(j≤3→c=0∧l=0)∧(j=4∨j=5→c=0∧0≤l∧l≤256)∧(j=6∨j=7→1≤l∧(c:Int)+l≤256)∧(8≤j→c≤256∧l=0)
theorem ko.left {j c:Nat} {l:Int} (h:ko j l c):0≤l∧l≤256:=by
 obtain⟨h1,h2,h3,h4⟩:=h
 by_cases a:j≤3
 · have:=h1 a;omega
 · by_cases b:j=4∨j=5
   · have:=h2 b;omega
   · by_cases d:j=6∨j=7
     · have:=h3 d;omega
     · have:=h4 (by omega);omega
theorem ko.next {i c:Nat} {l j' l':Int} (hi:i<10) (h:ko i l c) (t:Trans i l j' l'):∃j:Nat,j<10∧j'=j∧ko j l' (if i=7 then c+1 else c):=by
 obtain⟨h1,h2,h3,h4⟩:=h
 obtain⟨t3,t7,tn,ts,tj,t9⟩:=t
 match i,hi with
 |0,_=>exact⟨1,by omega,by simpa using tj (by omega) (by omega),fun _=>by have:=h1 (by omega);have:=tn (by omega) (by omega);simp;omega,by omega,by omega,by omega⟩
 |1,_=>exact⟨2,by omega,by simpa using tj (by omega) (by omega),fun _=>by have:=h1 (by omega);have:=tn (by omega) (by omega);simp;omega,by omega,by omega,by omega⟩
 |2,_=>exact⟨3,by omega,by simpa using tj (by omega) (by omega),fun _=>by have:=h1 (by omega);have:=tn (by omega) (by omega);simp;omega,by omega,by omega,by omega⟩
 |3,_=>exact⟨4,by omega,by simpa using tj (by omega) (by omega),by omega,fun _=>by have:=h1 (by omega);have:=t3 rfl;simp;omega,by omega,by omega⟩
 |4,_=>exact⟨5,by omega,by simpa using tj (by omega) (by omega),by omega,fun _=>by have:=h2 (by omega);have:=tn (by omega) (by omega);simp;omega,by omega,by omega⟩
 |5,_=>
  have:=h2 (by omega)
  have:=tn (by omega) (by omega)
  rcases ts (by omega) with⟨a,b⟩|⟨a,b⟩
  · exact⟨8,by omega,b,by omega,by omega,by omega,fun _=>by simp;omega⟩
  · exact⟨6,by omega,b,by omega,by omega,fun _=>by simp;omega,by omega⟩
 |6,_=>exact⟨7,by omega,by simpa using tj (by omega) (by omega),by omega,by omega,fun _=>by have:=h3 (by omega);have:=tn (by omega) (by omega);simp;omega,by omega⟩
 |7,_=>
  have:=h3 (by omega)
  have:=t7 rfl
  rcases ts (by omega) with⟨a,b⟩|⟨a,b⟩
  · exact⟨8,by omega,b,by omega,by omega,by omega,fun _=>by simp;omega⟩
  · exact⟨6,by omega,b,by omega,by omega,fun _=>by simp;omega,by omega⟩
 |8,_=>exact⟨9,by omega,by simpa using tj (by omega) (by omega),by omega,by omega,by omega,fun _=>by have:=h4 (by omega);have:=tn (by omega) (by omega);simp;omega⟩
 |9,_=>exact absurd rfl t9
structure PutQ (n:Nat) (r:(List (List Int))×(List Int)×Int×Int×Int×ab×ak×Int×Int):Prop where
 ok:r.2.2.2.2.2.2.2.1=0→InvH r.2.2.2.2.2.1∧r.1.length≤256∧Good320 r.1∧0≤r.2.2.1∧r.2.2.1≤n
 bad:r.2.2.2.2.2.2.2.1≠0→0≤r.2.2.2.2.2.2.2.2∧r.2.2.2.2.2.2.2.2≤n
theorem xM {raw:List Int} (hl:raw.length<2^30) (hb:aS raw):
  ∃r,di ⟨[],0,0,0,⟨0,0,0⟩,⟨1,0⟩,0,0⟩ raw=some r∧(r.2.1=0→InvH r.2.2.header∧r.1.length≤256∧Good320 r.1∧0≤r.2.2.at_∧r.2.2.at_≤raw.length)∧(r.2.1≠0→0≤r.2.2.place∧r.2.2.place≤raw.length)∧r.2.2.err=r.2.1:=by
 unfold di
 obtain⟨r,hr,hq⟩:=wT (S:=((List Int)×(List (List Int))×(List Int)×Int×Int×Int×ab×ak×Int×Int)) (R:=((List (List Int))×(List Int)×Int×Int×Int×ab×ak×Int×Int))
  (P:=fun s=>aS s.1∧Good320 s.2.1∧s.2.2.1=[]∧s.2.2.2.1+(s.1.length:Int)=(raw.length:Int)∧0≤s.2.2.2.1∧s.2.2.2.2.2.2.2.2.1=0∧∃j:Nat,j<10∧s.2.2.2.2.1=j∧InvH s.2.2.2.2.2.2.1∧ko j s.2.2.2.2.2.1 s.2.1.length)
  (Q:=PutQ raw.length) (fun s=>s.1.length) (step:=(fun(x324,x326,x328,x329,x330,x331,x332,x333,x334,x335)=>
   bif x334==0 then
    (cm (⟨x328,x329,x330,x331,x332,x333,x334,x335⟩:aD)).bind fun y394=>
    bif decide ((IntKind.wrap .i64 (y394 - (x328.length:Int)))>(x324.length:Int)) then
      (app x328 x324).bind fun z396=>
      some (.done (x326,z396,IntKind.wrap .i64 (x329+(x324.length:Int)),x330,x331,x332,x333,x334,x335))
    else
      (sub x324 0 (IntKind.wrap .i64 (y394 - (x328.length:Int)))).bind fun x403=>
      (app x328 x403).bind fun z405=>
      (sub x324 (IntKind.wrap .i64 (y394 - (x328.length:Int))) (x324.length:Int)).bind fun x409=>
      ((bif x330==7 then
        (cj z405).bind fun y430=>
        (app x326 [y430]).bind fun z433=>
        some z433
      else
        some x326
        :Option (List (List Int)))).bind fun x418=>
      (bV (⟨z405,IntKind.wrap .i64 (x329+(IntKind.wrap .i64 (y394 - (x328.length:Int)))),x330,x331,x332,x333,x334,x335⟩:aD)).bind fun y422=>
      bif y422.1 != 0 then
        some (.done (x418,y422.2.field,y422.2.at_,y422.2.stage,y422.2.left,y422.2.header,y422.2.sum,y422.1,IntKind.wrap .i64 (y422.2.at_ - (y422.2.field.length:Int))))
      else
        bif decide ((0:Int)≤0∧(0:Int)≤0∧(0:Int)≤(y422.2.field.length:Int)) then
        some (.next (x409,x418,List.take (Int.toNat 0) y422.2.field,y422.2.at_,y422.2.stage,y422.2.left,y422.2.header,y422.2.sum,y422.1,y422.2.place))
        else none
   else
    some (.done (x326,x328,x329,x330,x331,x332,x333,x334,x335)):_→Option (Ctl _ _)))
  (s:=(raw,[],[],0,0,0,⟨0,0,0⟩,⟨1,0⟩,0,0)) (fun s hs=>by
   obtain⟨piece,cells,field,at_,stage,left,header,sum,err,place⟩:=s
   obtain⟨p1,p2,p3,p4,p5,p6,j,hj,p7,p8,p9⟩:=hs
   simp only at p1 p2 p3 p4 p5 p6 p7 p8 p9
   subst p3;subst p6;subst p7
   obtain⟨z1,z2,z3⟩:=jx hj
   have hL:=p9.left
   have hc256:cells.length≤256:=by
    obtain⟨q1,q2,q3,q4⟩:=p9
    by_cases a:j≤3
    · have:=q1 a;omega
    · by_cases b:j=4∨j=5
      · have:=q2 b;omega
      · by_cases d:j=6∨j=7
        · have:=q3 d;omega
        · have:=q4 (by omega);omega
   have hsize:cm (⟨[],at_,(j:Int),left,header,sum,0,place⟩:aD)=some (bl j:Int):=by
    unfold cm
    simp only
    rw[z3];rfl
   have e00:((0:Int)==0)=true:=rfl
   simp only[e00,cond_true]
   rw[hsize]
   simp only[af,List.length_nil]
   have e0:∀m:Int,m - ((0:Nat):Int)=m:=fun m=>by simp
   have en:IntKind.wrap .i64 (bl j:Int)=(bl j:Int):=wrap64 (by omega)
   simp only[e0,en]
   cases hc:decide ((bl j:Int)>(piece.length:Int)) with
   |true=>
    left
    simp only[cond_true]
    rw[bK (by rw[iE];simp;omega)]
    refine⟨_,rfl,fun _=>⟨p8,hc256,p2,?_,?_⟩,fun h=>absurd rfl h⟩
    · show 0≤IntKind.wrap .i64 (at_+(piece.length:Int));rw[wrap64 (by omega)];omega
    · show IntKind.wrap .i64 (at_+(piece.length:Int))≤_;rw[wrap64 (by omega)];omega
   |false=>
    have hc':=of_decide_eq_false hc
    simp only[cond_false]
    rw[sK (h:=(bl j:Int)) (j:=bl j) rfl (by omega)]
    simp only[af]
    have tl:(piece.take (bl j)).length=bl j:=by rw[List.length_take];omega
    have tb:aS (piece.take (bl j)):=fD p1 _
    rw[bK (by rw[iE];simp;omega)]
    simp only[af,List.nil_append]
    rw[vd (l:=(bl j:Int)) (i:=bl j) rfl (by omega)]
    simp only[af]
    generalize piece.take (bl j)=w at*
    have hat:IntKind.wrap .i64 (at_+(bl j:Int))=at_+(bl j:Int):=wrap64 (by omega)
    rw[hat]
    have ecl:(bif (j:Int)==7 then(cj w).bind fun y430=>(app cells [y430]).bind fun z433=>some z433 else some cells:Option (List (List Int)))=some (if j=7 then cells++[w] else cells):=by
      by_cases h7:j=7
      · have:((j:Int)==7)=true:=by simp;omega
        rw[this,cond_true,vc (by omega),if_pos h7]
        simp only[af]
        rw[bK (by rw[iE];simp;omega)];rfl
      · have:((j:Int)==7)=false:=by simp;omega
        rw[this,cond_false,if_neg h7]
    rw[ecl]
    simp only[af]
    obtain⟨r,hr,hrf,hra,hrs⟩:=uN (f:=⟨w,at_+(bl j:Int),(j:Int),left,header,sum,0,place⟩) rfl hj (by simp only;omega) tb p8 hL
    rw[hr]
    simp only[af]
    simp only at hrf hra hrs
    cases hr1:(r.1 != 0) with
    | true =>
      have hr1:r.1≠0:=by simpa using hr1
      left
      simp only[cond_true]
      refine⟨_,rfl,fun h=>absurd h hr1,fun _=>?_⟩
      show 0≤IntKind.wrap .i64 (r.2.at_ - (r.2.field.length:Int))∧IntKind.wrap .i64 (r.2.at_ - (r.2.field.length:Int))≤_
      rw[hra,hrf,tl,wrap64 (by omega)]
      omega
    | false =>
      have hr0:r.1=0:=by simpa using hr1
      right
      have g:decide ((0:Int)≤0∧(0:Int)≤0∧(0:Int)≤(r.2.field.length:Int))=true:=decide_eq_true (by omega)
      obtain⟨i1,i2⟩:=hrs hr0
      obtain⟨j',k1,k2,k3⟩:=ko.next hj p9 i2
      simp only[cond_false,g,cond_true]
      refine⟨_,rfl,⟨l9 p1 _,?_,rfl,?_,?_,hr0,j',k1,k2,i1,?_⟩,?_⟩
      · show Good320 (if j=7 then cells++[w] else cells)
        split
        · rename_i h7
          intro x hx
          rcases List.mem_append.1 hx with hx|hx
          · exact p2 x hx
          · have:=List.mem_singleton.1 hx;subst this;exact⟨by rw[tl,h7];rfl,tb⟩
        · exact p2
      · show r.2.at_+((piece.drop (bl j)).length:Int)=_
        rw[hra,List.length_drop];omega
      · show 0≤r.2.at_
        rw[hra];omega
      · show ko j' r.2.left (if j=7 then cells++[w] else cells).length
        have:(if j=7 then cells++[w] else cells).length=(if j=7 then cells.length+1 else cells.length):=by split<;>simp
        rw[this];exact k3
      · show(piece.drop (bl j)).length<piece.length
        rw[List.length_drop];omega) ⟨hb,fun x hx=>(by cases hx),rfl,by simp,by simp,rfl,0,by omega,rfl,⟨by simp,by simp,by simp⟩,fun _=>⟨rfl,rfl⟩,by omega,by omega,by omega⟩
 rw[hr]
 obtain⟨q1,q2⟩:=hq
 exact⟨_,rfl,q1,q2,rfl⟩
theorem pK {raw:List Int} (hl:raw.length<2^30) (hb:aS raw):∃r,eO raw=some r∧(r.2.2=0→InvH r.1.Header∧r.1.Cells.length≤256∧Good320 r.1.Cells)∧0≤r.2.1∧r.2.1≤raw.length:=by
 unfold eO fK
 simp only[af]
 obtain⟨r,hr,h0,h1,he⟩:=xM hl hb
 rw[hr]
 simp only[af]
 cases hx:r.2.1==0 with
 |false=>
  have hx:r.2.1≠0:=by simpa using hx
  exact⟨_,rfl,fun h=>absurd h hx,h1 hx⟩
 |true=>
  have hx:r.2.1=0:=by simpa using hx
  obtain⟨a1,a2,a3,a4,a5⟩:=h0 hx
  simp only[cond_true]
  unfold eW
  simp only[he,hx,bne_self_eq_false,cond_false]
  cases decide (r.2.2.stage<9) with
  |true=>
   refine⟨_,rfl,fun h=>?_,a4,a5⟩
   simp at h
  |false=>exact⟨_,rfl,fun _=>⟨a1,a2,a3⟩,by simp,by simp⟩
end Go.Proofs.YtobbmodjdkcdcaaGreatDoor
