import Derived.Test.YtobbmodjdkcdcaaGreatDoorLawFrame
set_option linter.all false
set_option maxRecDepth 20000
set_option maxHeartbeats 1000000
namespace Go.Proofs.YtobbmodjdkcdcaaGreatDoor
open Go Go.Sim
variable [Fu]
theorem gh:∀(n:Nat) (p:List Int),p.length=n→n≤8→aL p→∃v:Nat,bigS p=v∧v<256^n|0,p,h,_,_=>by have:p=[]:=Gb h;subst this;exact⟨0,rfl,by simp⟩|n+1,p,h,hn,hb=>by (have hne:p≠[]:=by intro e;subst e;simp at h);have hp:p=p.dropLast++[p.getLast hne]:=(List.dropLast_concat_getLast hne).symm;obtain⟨v,h1,h2⟩:=gh n p.dropLast (by simp[h]) (by omega) (λb hbm=>hb b (List.dropLast_subset p hbm));have hl:=hb _ (List.getLast_mem hne);obtain⟨b,hbn⟩:∃b:Nat,p.getLast hne=b:=⟨(p.getLast hne).toNat,by omega⟩;(have h56:v<2^56:=by have:256^n≤256^7:=Ja (by omega) (by omega);omega);refine⟨v*256+b,?_,by rw[Nat.pow_succ];omega⟩;rw[hp];unfold bigS at h1⊢;rw[GD,h1,hbn];simp only[GF,Io];exact xv h56 (by omega)
def InvH (h:af):Prop:=(0≤h.Left∧h.Left≤8)∧(0≤h.Round∧h.Round≤4611686018427387903)∧(0≤h.Epoch∧h.Epoch≤4611686018427387904)
def aV (i:Nat):Nat:=[4,1,1,2,8,8,2,320,4,1].getD i 0
theorem jY {i:Nat} (h:i<10):1≤aV i∧aV i≤320∧idx [4,1,1,2,8,8,2,320,4,1] (i:Int)=some (aV i:Int):=by match i,h with|0,_=>exact⟨by decide,by decide,rfl⟩|1,_=>exact⟨by decide,by decide,rfl⟩|2,_=>exact⟨by decide,by decide,rfl⟩|3,_=>exact⟨by decide,by decide,rfl⟩|4,_=>exact⟨by decide,by decide,rfl⟩|5,_=>exact⟨by decide,by decide,rfl⟩|6,_=>exact⟨by decide,by decide,rfl⟩|7,_=>exact⟨by decide,by decide,rfl⟩|8,_=>exact⟨by decide,by decide,rfl⟩|9,_=>exact⟨by decide,by decide,rfl⟩
def Trans (i:Nat) (l:Int) (j l':Int):Prop:=(i=3→0≤l'∧l'≤256)∧(i=7→l'=l - 1)∧(i≠3→i≠7→l'=l)∧(i=5∨i=7→(l'=0∧j=8)∨(l'≠0∧j=6))∧(i≠5→i≠7→j=(i:Int)+1)∧i≠9
theorem zh {f:aF} {i:Nat} (hs:f.stage=i) (h:i<10) (hl:f.field.length=aV i) (hb:aL f.field) (hH:InvH f.header) (hleft:0≤f.left∧f.left≤256):
   ∃r,aA f=some r∧r.2.field=f.field∧r.2.at_=f.at_∧(r.1=0→InvH r.2.header∧Trans i f.left r.2.stage r.2.left):=by
 unfold aA
 have hsz:=jY h
 have hl30:f.field.length<2^30:=by omega
 rw[jB hl30,jX hl30]
 simp only[ab,dM]
 have hc:∀k:Nat,(((i:Nat):Int)==((k:Nat):Int))=decide (i=k):=λk=>by
   rw[Gk];simp only[Hj,FX];omega
 rw[hs]
 have c0:(((i:Nat):Int)==0)=decide (i=0):=hc 0
 have c1:(((i:Nat):Int)==1)=decide (i=1):=hc 1
 have c2:(((i:Nat):Int)==2)=decide (i=2):=hc 2
 have c3:(((i:Nat):Int)==3)=decide (i=3):=hc 3
 have c4:(((i:Nat):Int)==4)=decide (i=4):=hc 4
 have c5:(((i:Nat):Int)==5)=decide (i=5):=hc 5
 have c6:(((i:Nat):Int)==6)=decide (i=6):=hc 6
 have c7:(((i:Nat):Int)==7)=decide (i=7):=hc 7
 have c8:(((i:Nat):Int)==8)=decide (i=8):=hc 8
 have c9:(((i:Nat):Int)==9)=decide (i=9):=hc 9
 rw[c0,c1,c2,c3,c4,c5,c6,c7,c8,c9]
 have hw1:IntKind.wrap .i64 ((i:Int)+1)=(i:Int)+1:=wrap64 (by omega)
 rw[hw1]
 have fin:∀(l:Int) (hd:af),i≠9→InvH hd→(i=3→0≤l∧l≤256)→(i=7→l=f.left - 1)→(i≠3→i≠7→l=f.left)→i≠8→∃r:Int×aF,(((bif (((i:Int)+1)==6)||(((i:Int)+1)==8) then
        bif l==0 then
         some 8
        else
         some 6
       else
        some ((i:Int)+1)
        :Option Int)).bind λx30=>
       some ((0:Int),(⟨f.field,f.at_,x30,l,hd,addS f.sum f.field,f.err,f.place⟩:aF)))=some r∧r.2.field=f.field∧r.2.at_=f.at_∧(r.1=0→InvH r.2.header∧Trans i f.left r.2.stage r.2.left):=by
   intro l hd h9 hih h3 h7 hn h8
   by_cases hx:i=5∨i=7
   · have e:((((i:Int)+1)==6)||(((i:Int)+1)==8))=true:=by simp;omega
     rw[e,FJ]
     by_cases hz:l=0
     · have ez:(l==0)=true:=by simpa using hz
       rw[ez]
       exact⟨_,rfl,rfl,rfl,λ_=>⟨hih,h3,h7,hn,λ_=> .inl ⟨hz,rfl⟩,λa b=>by omega,h9⟩⟩
     · have ez:(l==0)=false:=by simpa using hz
       rw[ez]
       exact⟨_,rfl,rfl,rfl,λ_=>⟨hih,h3,h7,hn,λ_=> .inr ⟨hz,rfl⟩,λa b=>by omega,h9⟩⟩
   · have e:((((i:Int)+1)==6)||(((i:Int)+1)==8))=false:=by simp;omega
     rw[e]
     exact⟨_,rfl,rfl,rfl,λ_=>⟨hih,h3,h7,hn,λa=>absurd a hx,λ_ _=>rfl,h9⟩⟩
 have err:∀(z:Int×aF),z.1≠0→z.2.field=f.field→z.2.at_=f.at_→∃r,(some z:Option (Int×aF))=some r∧r.2.field=f.field∧r.2.at_=f.at_∧(r.1=0→InvH r.2.header∧Trans i f.left r.2.stage r.2.left):=
   λz h1 h2 h3=>⟨z,rfl,h2,h3,λh=>absurd h h1⟩
 have D:∀k,i=k→decide (i=k)=true:=λk e=>FK e
 have N:∀k,i≠k→decide (i=k)=false:=λk e=>FL e
 have g0:1≤f.field.length:=by omega
 by_cases k8:i=8
 · rw[D 8 k8,FJ]
   cases bigS f.field != IntKind.wrap .u64 (orI .u32 (shlI .u32 f.sum.b 16) f.sum.a) with
   |true=>exact err _ (by simp) rfl rfl
   |false=>exact⟨_,rfl,rfl,rfl,λ_=>⟨hH,by omega,by omega,λ_ _=>rfl,by omega,λ_ _=>by rw[k8];rfl,by omega⟩⟩
 rw[N 8 k8,FI]
 by_cases k0:i=0
 · rw[D 0 k0,FJ]
   cases (strB f.field) != [67,72,82,78] with
   |true=>exact err _ (by simp) rfl rfl
   |false=>exact fin _ _ (by omega) hH (by omega) (by omega) (λ_ _=>rfl) k8
 rw[N 0 k0,FI]
 by_cases k1:i=1
 · rw[D 1 k1,FJ,ar (z:=0) (i:=0) rfl (by omega)]
   simp only[ab]
   cases (f.field.getD 0 0) != 1 with
   |true=>exact err _ (by simp) rfl rfl
   |false=>exact fin _ _ (by omega) hH (by omega) (by omega) (λ_ _=>rfl) k8
 rw[N 1 k1,FI]
 by_cases k2:i=2
 · rw[D 2 k2,FJ,ar (z:=0) (i:=0) rfl (by omega)]
   simp only[ab]
   have hg:=gp hb 0
   have hw:IntKind.wrap .i64 (f.field.getD 0 0)=f.field.getD 0 0:=wrap64 (by omega)
   rw[hw]
   cases hx:decide ((({f.header with Left:=f.field.getD 0 0}:af).Left)>8) with
   |true=>exact err _ (by simp) rfl rfl
   | false =>
     have hx:¬f.field.getD 0 0>8:=F5 hx
     exact fin _ _ (by omega) ⟨⟨hg.1,by show f.field.getD 0 0≤8;omega⟩,hH.2.1,hH.2.2⟩ (by omega) (by omega) (λ_ _=>rfl) k8
 rw[N 2 k2,FI]
 by_cases k3:i=3
 · rw[D 3 k3,FJ]
   obtain⟨v,hv,hv2⟩:=gh 2 f.field (by rw[hl,k3];rfl) (by omega) hb
   rw[hv,wrap64 (by omega)]
   cases hx:decide ((v:Int)>256) with
   |true=>exact err _ (by simp) rfl rfl
   | false =>
     have hx:=F5 hx
     exact fin _ _ (by omega) hH (λ_=>by omega) (by omega) (λa=>absurd k3 a) k8
 rw[N 3 k3,FI]
 by_cases k4:i=4
 · rw[D 4 k4,FJ]
   obtain⟨v,hv,hv2⟩:=gh 8 f.field (by rw[hl,k4];rfl) (by omega) hb
   rw[hv]
   cases hx:decide ((v:Int)>4611686018427387903) with
   |true=>exact err _ (by simp) rfl rfl
   | false =>
     have hx:=F5 hx
     have hw:IntKind.wrap .i64 (v:Int)=v:=wrap64 (by omega)
     rw[hw]
     exact fin _ _ (by omega) ⟨hH.1,⟨by show(0:Int)≤(v:Int);omega,by show(v:Int)≤_;omega⟩,hH.2.2⟩ (by omega) (by omega) (λ_ _=>rfl) k8
 rw[N 4 k4,FI]
 by_cases k5:i=5
 · rw[D 5 k5,FJ]
   obtain⟨v,hv,hv2⟩:=gh 8 f.field (by rw[hl,k5];rfl) (by omega) hb
   rw[hv]
   cases hx:decide ((v:Int)>4611686018427387904) with
   |true=>exact err _ (by simp) rfl rfl
   | false =>
     have hx:=F5 hx
     have hw:IntKind.wrap .i64 (v:Int)=v:=wrap64 (by omega)
     rw[hw]
     exact fin _ _ (by omega) ⟨hH.1,hH.2.1,⟨by show(0:Int)≤(v:Int);omega,by show(v:Int)≤_;omega⟩⟩ (by omega) (by omega) (λ_ _=>rfl) k8
 rw[N 5 k5,FI]
 by_cases k6:i=6
 · rw[D 6 k6,FJ]
   cases bigS f.field != 320 with
   |true=>exact err _ (by simp) rfl rfl
   |false=>exact fin _ _ (by omega) hH (by omega) (by omega) (λ_ _=>rfl) k8
 rw[N 6 k6,FI]
 by_cases k7:i=7
 · rw[D 7 k7,FJ]
   exact fin _ _ (by omega) hH (by omega) (λ_=>wrap64 (by omega)) (λ_ a=>absurd k7 a) k8
 rw[N 7 k7,FI]
 have k9:i=9:=by omega
 rw[D 9 k9,FJ]
 exact err _ (by simp) rfl rfl
end Go.Proofs.YtobbmodjdkcdcaaGreatDoor
