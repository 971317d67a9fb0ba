import Derived.Test.YtobbmodjdkcdcaaGreatDoorLawRiff
import Derived.Test.YtobbmodjdkcdcaaGreatDoorLawPeel
set_option linter.unusedVariables false
set_option linter.unusedSimpArgs false
set_option maxRecDepth 20000
namespace Go.Proofs.YtobbmodjdkcdcaaGreatDoor
open Go Go.Sim
set_option linter.unusedSectionVars false
variable [Fu]
def zN (num den:Nat):Nat→Nat
 |0=>4294967296
 |i+1=>zN num den i*num / den
def cumN (num den:Nat):Nat→Nat
 |0=>zN num den 0
 |i+1=>zN num den (i+1)+cumN num den i
theorem zx {num den:Nat} (h:num≤den):∀i,zN num den i≤4294967296
 |0=>Nat.le_refl _
 |i+1=>by
  have ih:=zx h i
  simp only[zN]
  refine Nat.le_trans ?_ ih
  by_cases hd:den=0
  · subst hd;simp
  · refine Nat.div_le_of_le_mul ?_
    rw[Nat.mul_comm den]
    exact Nat.mul_le_mul_left _ h
theorem vS {num den:Nat} (h:num≤den):∀i,cumN num den i≤4294967296*(i+1)
 |0=>by simp[cumN,zN]
 |i+1=>by
  have:=vS h i
  have:=zx h (i+1)
  simp only[cumN];omega
theorem vT (num den:Nat):∀i,4294967296≤cumN num den i
 |0=>by simp[cumN,zN]
 |i+1=>by have:=vT num den i;simp only[cumN];omega
def tabS (num den most:Nat):List Int:=(List.range (most+1)).map fun i=>((65536*cumN num den i / cumN num den most:Nat):Int)
def badT (num den most:Int):Bool:=(((((decide (num<0))||(decide (num>den)))||(decide (den<1)))||(decide (den>1000)))||(decide (most<0)))||(decide (most>16))
def yQ (num den most:Int):List Int×Int:=bif badT num den most then([],2) else(tabS num.toNat den.toNat most.toNat,0)
theorem xn {num den most:Int}:ib num den most=some (yQ num den most):=by
 unfold ib yQ
 show(bif badT num den most then _ else _)=_
 cases hb:badT num den most with
 |true=>rfl
 |false=>
  simp only[badT,Bool.or_eq_false_iff,decide_eq_false_iff_not] at hb
  obtain⟨⟨⟨⟨⟨b1,b2⟩,b3⟩,b4⟩,b5⟩,b6⟩:=hb
  obtain⟨a,rfl⟩:∃a:Nat,num=a:=⟨num.toNat,by omega⟩
  obtain⟨d,rfl⟩:∃d:Nat,den=d:=⟨den.toNat,by omega⟩
  obtain⟨m,rfl⟩:∃m:Nat,most=m:=⟨most.toNat,by omega⟩
  have had:a≤d:=by omega
  have hw:IntKind.wrap .i64 ((m:Int)+1)=((m+1:Nat):Int):=by rw[wrap64 (by omega)];rfl
  have hne:decide ((d:Int)≠0)=true:=decide_eq_true (by omega)
  rw[cond_false,cond_false,hw,Int.toNat_natCast,Int.toNat_natCast,Int.toNat_natCast]
  rw[we (by omega),cond_true]
  rw[aV (s0:=(List.replicate (Int.toNat 0) (0:Int),0,4294967296)) (r:=(List.range (m+1)).map fun i=>(cumN a d i:Int)) (fun i=>((List.range i).map (fun i=>(cumN a d i:Int)),(i:Int),(zN a d i:Int))) 0 (m+1) (Nat.zero_le _) ?_ ?_ (by simp[zN])]
  · simp only[ae]
    rw[aV (s0:=(List.replicate (Int.toNat 0) (0:Int),0)) (r:=tabS a d m) (fun i=>((List.range i).map (fun i=>((65536*cumN a d i / cumN a d m:Nat):Int)),(i:Int))) 0 (m+1) (Nat.zero_le _) ?_ ?_ rfl]
    · rfl
    · intro i _ hi
      have hd:decide ((i:Int)<(((List.range (m+1)).map fun i=>(cumN a d i:Int)).length:Int))=true:=decide_eq_true (by simp;omega)
      have hg:∀k,k<m+1→((List.range (m+1)).map fun i=>(cumN a d i:Int)).getD k 0=(cumN a d k:Int):=fun k hk=>by simp[List.getD,List.getElem?_range hk]
      have c1:=vS had i
      have c2:=vT a d m
      have hnz:decide ((cumN a d m:Int)≠0)=true:=decide_eq_true (by omega)
      have e1:IntKind.wrap .i64 (65536*(cumN a d i:Int))=((65536*cumN a d i:Nat):Int):=by rw[wrap64 (by omega)];omega
      have hq:65536*cumN a d i / cumN a d m≤65536*cumN a d i:=Nat.div_le_self _ _
      simp only[hd,cond_true]
      rw[aK (i:=i) rfl (by simp;omega),hg i hi]
      simp only[ae]
      rw[aK (i:=m) rfl (by simp),hg m (by omega)]
      simp only[ae,hnz,cond_true]
      rw[e1,l9,wrap64 (by
       have:65536*cumN a d i≤65536*(4294967296*17):=Nat.mul_le_mul_left _ (Nat.le_trans c1 (Nat.mul_le_mul_left _ (by omega)))
       generalize 65536*cumN a d i / cumN a d m=q at*
       omega),bj (by rw[dT];simp;omega),eb (fun i=>((65536*cumN a d i / cumN a d m:Nat):Int)),wrap64 (x:=(i:Int)+1) (by omega)]
      rfl
    · have hd:decide (((m+1:Nat):Int)<(((List.range (m+1)).map fun i=>(cumN a d i:Int)).length:Int))=false:=decide_eq_false (by simp)
      simp only[hd,cond_false,tabS]
  · intro i _ hi
    have hd:decide ((i:Int)≤(m:Int))=true:=decide_eq_true (by omega)
    have z1:=zx had i
    have z2:=zx had (i+1)
    have hz:IntKind.wrap .i64 ((zN a d i:Int)*(a:Int))=((zN a d i*a:Nat):Int):=by
      rw[←Int.natCast_mul]
      have:zN a d i*a≤4294967296*1000:=Nat.mul_le_mul z1 (by omega)
      exact wrap64 (by omega)
    have hz2:IntKind.wrap .i64 (Int.tdiv ((zN a d i*a:Nat):Int) (d:Int))=(zN a d (i+1):Int):=by
      rw[l9]
      show IntKind.wrap .i64 (zN a d (i+1):Int)=_
      exact wrap64 (by omega)
    have hc:(bif decide ((i:Int)>0) then
        (idx ((List.range i).map (fun i=>(cumN a d i:Int))) (IntKind.wrap .i64 ((i:Int) - 1))).bind fun oA=>
        some (IntKind.wrap .i64 ((zN a d i:Int)+oA))
       else
        some (zN a d i:Int)
        :Option Int)=some (cumN a d i:Int):=by
      cases i with
      |zero=>
       rw[decide_eq_false (show¬(((0:Nat):Int)>0) by omega),cond_false]
       rfl
      |succ i=>
       have h1:decide (((i+1:Nat):Int)>0)=true:=decide_eq_true (by omega)
       have c1:=vS had i
       rw[h1,cond_true,wrap64 (by omega),aK (i:=i) (by omega) (by simp)]
       have hg:((List.range (i+1)).map fun i=>(cumN a d i:Int)).getD i 0=(cumN a d i:Int):=by simp[List.getD]
       simp only[ae]
       rw[hg,wrap64 (by omega)];rfl
    simp only[hd,cond_true,hne]
    rw[hc]
    simp only[ae]
    rw[bj (by rw[dT];simp;omega),eb (fun i=>(cumN a d i:Int)),hz,hz2,wrap64 (x:=(i:Int)+1) (by omega)]
    rfl
  · have hd:decide (((m+1:Nat):Int)≤(m:Int))=false:=decide_eq_false (by omega)
    simp only[hd,cond_false]
theorem AD (num den most:Nat):(tabS num den most).getD most 0=65536:=by
 have:65536*cumN num den most / cumN num den most=65536:=Nat.mul_div_cancel _ (by have:=vT num den most;omega)
 simp only[tabS,List.getD,List.getElem?_map,List.getElem?_range (show most<most+1 by omega),Option.map_some,Option.getD_some,this]
 rfl
def lE (v:Nat) (tab:List Int):Nat:=tab.findIdx fun y=>decide ((v:Int)<y)
def vU (ns:List Int) (num den most:Int):Int×Int:=
 bif badT num den most then(0,2) else bif decide ((ns.length:Int)<18) then(0,3) else((lE (lenS ns) (tabS num.toNat den.toNat most.toNat):Int),0)
theorem AE {v num den most:Nat} (hv:v≤65535):lE v (tabS num den most)<(tabS num den most).length∧lE v (tabS num den most)≤most:=by
 have hl:(tabS num den most).length=most+1:=by simp[tabS]
 have hm : (tabS num den most)[most]'(by omega) = 65536 := by
  have:=AD num den most
  simpa[List.getD,hl] using this
 have h1:lE v (tabS num den most)≤most:=by
  unfold lE
  rw[Nat.le_iff_lt_add_one]
  have:=List.findIdx_lt_length_of_exists (p:=fun y:Int=>decide ((v:Int)<y)) (xs:=tabS num den most) ⟨_,List.getElem_mem (show most<(tabS num den most).length by omega),by rw[hm];exact decide_eq_true (by omega)⟩
  omega
 exact⟨by omega,h1⟩
theorem xo {ns:List Int} {num den most:Int} (hb:aS ns):ic ns num den most=some (vU ns num den most):=by
 unfold ic vU
 rw[xn]
 simp only[ae,yQ]
 cases hbt:badT num den most with
 |true=>rfl
 |false=>
  simp only[cond_false,bne_self_eq_false]
  cases hl:decide ((ns.length:Int)<18) with
  |true=>rfl
  |false=>
   have hl:=of_decide_eq_false hl
   simp only[cond_false]
   rw[aK (z:=0) (i:=0) rfl (by omega)]
   simp only[ae]
   rw[aK (z:=1) (i:=1) rfl (by omega)]
   simp only[ae]
   rw[BG hb]
   generalize hT:tabS num.toNat den.toNat most.toNat=tab at*
   have hk:=AE (num:=num.toNat) (den:=den.toNat) (most:=most.toNat) (zz hb)
   rw[hT] at hk
   have hm16:most.toNat≤16:=by
     simp only[badT,Bool.or_eq_false_iff,decide_eq_false_iff_not] at hbt;omega
   rw[aV (s0:=0) (r:=(lE (lenS ns) tab:Int)) (fun i=>(i:Int)) 0 (lE (lenS ns) tab) (Nat.zero_le _) ?_ ?_ rfl]
   · rfl
   · intro i _ hi
     have hn:=List.not_of_lt_findIdx hi
     have hlt:i<tab.length:=by omega
     have hge:decide ((lenS ns:Int)≥tab.getD i 0)=true:=by
      simp only[List.getD,List.getElem?_eq_getElem hlt,Option.getD_some]
      have:¬((lenS ns:Int)<tab[i]):=by simpa using hn
      exact decide_eq_true (by omega)
     rw[aK rfl hlt]
     simp only[ae,hge,cond_true]
     rw[wrap64 (by omega)];rfl
   · have hp:=List.findIdx_getElem (p:=fun y:Int=>decide ((lenS ns:Int)<y)) (xs:=tab) (w:=hk.1)
     have hge:decide ((lenS ns:Int)≥tab.getD (lE (lenS ns) tab) 0)=false:=by
      simp only[List.getD,List.getElem?_eq_getElem hk.1,Option.getD_some]
      have : (lenS ns : Int) < tab[lE (lenS ns) tab]'hk.1 := of_decide_eq_true hp
      exact decide_eq_false (by omega)
     rw[aK rfl hk.1]
     simp only[ae,hge,cond_false]
def ir (ns:List Int) (n:Nat):List Int:=lK ((ns.take 18).drop 2) (List.replicate 16 0) (List.replicate n 0)
theorem qW (ns:List Int) (n:Nat):(ir ns n).length=n:=by simp[ir,uy]
def j6 (ns:List Int) (k left i:Nat):List Int:=
 bif decide (left>0) then padS (((ir ns (k*bT left)).take ((i+1)*bT left)).drop (i*bT left))
 else[0]++((ir ns (k*48)).take ((i+1)*48)).drop (i*48)++List.replicate 271 0
def mm (ns:List Int) (k left:Int):List (List Int)×Int:=
 bif (((decide (k<0))||(decide (k>16)))||(decide (left<0)))||(decide (left>7)) then([],2) else bif decide ((ns.length:Int)<18) then([],3) else
 ((List.range k.toNat).map (j6 ns k.toNat left.toNat),0)
theorem oZ {key:List Int} {n:Nat} {z:Int} (hz:z=n) (hk:key.length=16) (hb:aS key) (hn:n≤65536):fA key (List.replicate 16 (0:Int)) z=some (lK key (List.replicate 16 0) (List.replicate n 0)):=by
 subst hz
 unfold fA
 have hc:((decide ((n:Int)<0))||(decide ((n:Int)>65536)))=false:=by simp;omega
 rw[hc,cond_false,mt (by omega),cond_true,Int.toNat_natCast,sK hk hb (by simp) (by simp;omega)]
 rfl
theorem xp {ns:List Int} {k left:Int} (hb:aS ns):ig ns k left=some (mm ns k left):=by
 unfold ig mm
 cases hc:(((decide (k<0))||(decide (k>16)))||(decide (left<0)))||(decide (left>7)) with
 |true=>rfl
 |false=>
  simp only[Bool.or_eq_false_iff,decide_eq_false_iff_not] at hc
  obtain⟨⟨⟨c1,c2⟩,c3⟩,c4⟩:=hc
  simp only[cond_false]
  cases hl:decide ((ns.length:Int)<18) with
  |true=>rfl
  |false=>
   have hl:=of_decide_eq_false hl
   obtain⟨n,rfl⟩:∃n:Nat,k=n:=⟨k.toNat,by omega⟩
   obtain⟨l,rfl⟩:∃l:Nat,left=l:=⟨left.toNat,by omega⟩
   simp only[cond_false,Int.toNat_natCast]
   have hsub:sub ns 2 18=some ((ns.take 18).drop 2):=uY (i:=2) (j:=18) rfl rfl (by omega) (by omega)
   have hkl:((ns.take 18).drop 2).length=16:=by simp;omega
   have hkb:aS ((ns.take 18).drop 2):=ji (j7 hb _) _
   have g16:decide (16≤((ns.take 18).drop 2).length)=true:=decide_eq_true (by omega)
   have t16:List.take 16 ((ns.take 18).drop 2)=(ns.take 18).drop 2:=List.take_of_length_le (by omega)
   cases hp:decide ((l:Int)>0) with
   |true=>
    have hp:=of_decide_eq_true hp
    have hp2:decide (l>0)=true:=decide_eq_true (by omega)
    have hs:bT (l:Int)≤320:=xu _
    simp only[cond_true]
    rw[oc]
    simp only[ae]
    rw[hsub]
    simp only[ae,g16,cond_true,t16]
    have hns:n*bT (l:Int)≤16*320:=Nat.mul_le_mul (by omega) hs
    have hmul:IntKind.wrap .i64 ((n:Int)*(bT (l:Int):Int))=((n*bT (l:Int):Nat):Int):=by rw[←Int.natCast_mul,wrap64 (by omega)]
    rw[hmul,oZ rfl hkl hkb (by omega)]
    simp only[ae]
    have hsl:(ir ns (n*bT (l:Int))).length=n*bT (l:Int):=qW _ _
    show ((((Loop.run (S := ((List (List Int)) × Int)) (R := ((List (List Int)) ⊕ ((List (List Int)) × Int))) (fun x =>
       bif decide (x.2<(n:Int)) then
        (sub (ir ns (n*bT (l:Int))) (IntKind.wrap .i64 (x.2*(bT (l:Int):Int))) (IntKind.wrap .i64 ((IntKind.wrap .i64 (x.2+1))*(bT (l:Int):Int)))).bind _
       else _) _).bind _).bind _))=_
    rw[aV (s0:=([],0)) (r:=Sum.inl ((List.range n).map (j6 ns n l))) (fun i=>((List.range i).map (j6 ns n l),(i:Int))) 0 n (Nat.zero_le _) ?_ ?_ rfl]
    · rfl
    · intro i _ hi
      have hd:decide ((i:Int)<(n:Int))=true:=decide_eq_true (by omega)
      have h3:(i+1)*bT (l:Int)≤n*bT (l:Int):=Nat.mul_le_mul_right _ hi
      have h4:(i+1)*bT (l:Int)=i*bT (l:Int)+bT (l:Int):=Nat.succ_mul _ _
      have w0:IntKind.wrap .i64 ((i:Int)+1)=((i+1:Nat):Int):=by rw[wrap64 (by omega)];rfl
      have w1:IntKind.wrap .i64 ((i:Int)*(bT (l:Int):Int))=((i*bT (l:Int):Nat):Int):=by rw[←Int.natCast_mul,wrap64 (by omega)]
      have w2:IntKind.wrap .i64 (((i+1:Nat):Int)*(bT (l:Int):Int))=(((i+1)*bT (l:Int):Nat):Int):=by rw[←Int.natCast_mul,wrap64 (by omega)]
      simp only[hd,cond_true,w0,w1,w2]
      rw[uY (i:=i*bT (l:Int)) (j:=(i+1)*bT (l:Int)) rfl rfl (by omega) (by omega)]
      simp only[ae]
      rw[xr (by simp;omega)]
      simp only[ae,bne_self_eq_false,cond_false]
      have hcell:padS (((ir ns (n*bT (l:Int))).take ((i+1)*bT (l:Int))).drop (i*bT (l:Int)))=j6 ns n l i:=by
       unfold j6;rw[hp2];rfl
      rw[hcell,bj (by rw[dT];simp;omega),eb (j6 ns n l)]
      rfl
    · have hd:decide ((n:Int)<(n:Int))=false:=decide_eq_false (by omega)
      simp only[hd,cond_false]
   |false=>
    have hp:=of_decide_eq_false hp
    have hp2:decide (l>0)=false:=decide_eq_false (by omega)
    simp only[cond_false]
    rw[hsub]
    simp only[ae,g16,cond_true,t16]
    have hmul:IntKind.wrap .i64 ((n:Int)*48)=((n*48:Nat):Int):=by rw[wrap64 (by omega)];omega
    rw[hmul,oZ rfl hkl hkb (by omega)]
    simp only[ae]
    have hsl:(ir ns (n*48)).length=n*48:=qW _ _
    show ((((Loop.run (S := ((List (List Int)) × Int)) (R := ((List (List Int)) ⊕ ((List (List Int)) × Int))) (fun x =>
       bif decide (x.2<(n:Int)) then
        (sub (ir ns (n*48)) (IntKind.wrap .i64 (x.2*48)) (IntKind.wrap .i64 ((IntKind.wrap .i64 (x.2+1))*48))).bind _
       else _) _).bind _).bind _))=_
    rw[aV (s0:=([],0)) (r:=Sum.inl ((List.range n).map (j6 ns n l))) (fun i=>((List.range i).map (j6 ns n l),(i:Int))) 0 n (Nat.zero_le _) ?_ ?_ rfl]
    · rfl
    · intro i _ hi
      have hd:decide ((i:Int)<(n:Int))=true:=decide_eq_true (by omega)
      have w0:IntKind.wrap .i64 ((i:Int)+1)=((i+1:Nat):Int):=by rw[wrap64 (by omega)];rfl
      have w1:IntKind.wrap .i64 ((i:Int)*48)=((i*48:Nat):Int):=by rw[wrap64 (by omega)];omega
      have w2:IntKind.wrap .i64 (((i+1:Nat):Int)*48)=(((i+1)*48:Nat):Int):=by rw[wrap64 (by omega)];omega
      simp only[hd,cond_true,w0,w1,w2]
      rw[uY (i:=i*48) (j:=(i+1)*48) rfl rfl (by omega) (by omega)]
      simp only[ae]
      have hpl:(((ir ns (n*48)).take ((i+1)*48)).drop (i*48)).length=48:=by simp;omega
      have hcn:i8 (((ir ns (n*48)).take ((i+1)*48)).drop (i*48))=some (j6 ns n l i,0):=by
       unfold i8 j6
       rw[decide_eq_false (by omega:¬((((ir ns (n*48)).take ((i+1)*48)).drop (i*48)).length:Int)>319),cond_false,qn (z:=1) (off:=1) rfl rfl (by rw[hpl];omega),hpl,hp2]
       rfl
      rw[hcn]
      simp only[ae,bne_self_eq_false,cond_false]
      rw[bj (by rw[dT];simp;omega),eb (j6 ns n l)]
      rfl
    · have hd:decide ((n:Int)<(n:Int))=false:=decide_eq_false (by omega)
      simp only[hd,cond_false]
end Go.Proofs.YtobbmodjdkcdcaaGreatDoor
