import Derived.Test.YtdkfkpbijdimkaaGreatDoorLawOnion
set_option linter.unusedVariables false
set_option linter.unusedSimpArgs false
set_option maxRecDepth 20000
set_option maxHeartbeats 1000000
namespace Go.Proofs.YtdkfkpbijdimkaaGreatDoor
open Go Go.Sim
set_option linter.unusedSectionVars false
variable [Fu]
theorem mR:∀a:Fin 256,shlI .i64 ((a.val:Nat):Int) 8=((256*a.val:Nat):Int):=by decide+kernel
theorem oh {a b:Nat} (ha:a<256) (hb:b<256):orI .i64 ((256*a:Nat):Int) (b:Int)=((256*a+b:Nat):Int):=by
 have h:orI .i64 ((256*a:Nat):Int) (b:Int)=IntKind.wrap .i64 ((BitVec.ofInt 64 ((256*a:Nat):Int)|||BitVec.ofInt 64 (b:Int)).toNat:Int):=rfl
 rw[h]
 have h2:(BitVec.ofInt 64 ((256*a:Nat):Int)|||BitVec.ofInt 64 (b:Int)).toNat=256*a+b:=by
  rw[BitVec.toNat_or,BitVec.toNat_ofInt,BitVec.toNat_ofInt]
  have h1:(((256*a:Nat):Int)%((2^64:Nat):Int)).toNat=256*a:=by omega
  have h2:((b:Int)%((2^64:Nat):Int)).toNat=b:=by omega
  rw[h1,h2]
  have:=Nat.shiftLeft_add_eq_or_of_lt (b:=b) (i:=8) (by omega) a
  rw[Nat.shiftLeft_eq] at this
  have e:256*a=a*2^8:=by omega
  rw[e];exact this.symm
 rw[h2,wrap64 (by omega)]
def jr:ab:=⟨[],List.replicate 16 0⟩
def lenS (p:List Int):Nat:=256*(p.getD 0 0).toNat+(p.getD 1 0).toNat
def badS (l:Int) (p:List Int):Bool:=decide (lenS p>aD l - 34)||nz (p.drop (2+lenS p))
def innS (p:List Int):List Int:=(p.take (2+lenS p)).drop 2
theorem oi {p:List Int} (hb:aA p):orI .i64 (shlI .i64 (IntKind.wrap .i64 (p.getD 0 0)) 8) (IntKind.wrap .i64 (p.getD 1 0))=(lenS p:Int):=by
 have h0:=aX hb 0
 have h1:=aX hb 1
 unfold lenS
 generalize p.getD 0 0=x at*
 generalize p.getD 1 0=y at*
 obtain⟨a,rfl⟩:∃a:Nat,x=a:=⟨x.toNat,by omega⟩
 obtain⟨b,rfl⟩:∃b:Nat,y=b:=⟨y.toNat,by omega⟩
 rw[wrap64 (by omega),wrap64 (by omega),mR ⟨a,by omega⟩,oh (by omega) (by omega)]
 simp
theorem lA {p:List Int} (hb:aA p):lenS p≤65535:=by
 have h0:=aX hb 0
 have h1:=aX hb 1
 unfold lenS;omega
theorem jR {p:List Int} {l:Int} (hl:1≤l∧l≤8) (hs:(aD l:Int)=48+34*l) (hp:p.length=aD l - 32) (hb:aA p):
  cT p l=some (bif badS l p then([],false) else(innS p,true)):=by
 unfold cT dz
 rw[iF]
 simp only[aa]
 rw[ai (z:=0) (i:=0) rfl (by omega),ai (z:=1) (i:=1) rfl (by omega)]
 simp only[aa]
 rw[oi hb]
 have hn:=lA hb
 have hB:badS l p=(decide (lenS p>aD l - 34)||nz (p.drop (2+lenS p))):=rfl
 have hI:innS p=(p.take (2+lenS p)).drop 2:=rfl
 rw[hB,hI]
 generalize lenS p=n at*
 rw[wrap64 (x:=(aD l:Int) - 34) (by omega)]
 cases hc:decide (n>aD l - 34) with
 |true=>
  have:decide ((n:Int)>(aD l:Int) - 34)=true:=decide_eq_true (by have:=of_decide_eq_true hc;omega)
  rw[this];rfl
 |false=>
  have hc':=of_decide_eq_false hc
  have:decide ((n:Int)>(aD l:Int) - 34)=false:=decide_eq_false (by omega)
  rw[this,cond_false,wrap64 (by omega),cK (l:=2+(n:Int)) (i:=2+n) (j:=p.length) (by omega) rfl (by omega) (Nat.le_refl _)]
  simp only[aa,List.take_length,Bool.false_or]
  generalize hx:p.drop (2+n)=x
  have hxl:x.length≤p.length:=by rw[←hx,List.length_drop];omega
  rw[gg (p:=fun i=>x.getD i 0 != 0) (good:= .inl ()) (bad:= .inr ([],false)) (nz x) 0 x.length (by omega) (by have:=jO (l:=x) (a:=0);rw[List.drop_zero] at this;exact this) ?_ (bd (decide_eq_false (by omega))) (by rfl)]
  · cases nz x with
    |true=>rfl
    |false=>
     simp only[cond_false,aa]
     rw[cK (l:=2) (i:=2) (j:=2+n) rfl (by omega) (by omega) (by omega)];rfl
  · intro i _ hi
    have h1:decide ((i:Int)<(x.length:Int))=true:=decide_eq_true (by omega)
    rw[h1,cond_true,ai rfl hi]
    simp only[aa]
    rw[wrap64 (by omega)];cases x.getD i 0 != 0<;>rfl
def ki (key:List Int) (l:Int) (o:List Int):ab×Int:=
 bif (o.take 32).drop 16 != tagO (dh key (o.take 16)) l (o.take 16) (o.drop 32) then(jr,70)
 else bif badS l (eK (dh key (o.take 16)).Box (List.replicate 16 0) (o.drop 32)) then(jr,71)
 else(⟨bif decide (l>1) then padS (innS (eK (dh key (o.take 16)).Box (List.replicate 16 0) (o.drop 32))) else iE (innS (eK (dh key (o.take 16)).Box (List.replicate 16 0) (o.drop 32))),iG (dh key (o.take 16)).Replay (o.take 32)⟩,0)
def fu (key:List Int) (l:Int) (c:List Int):ab×Int:=
 bif key.length != 32||aD l==0 then(jr,2)
 else bif (cutS c (aD l)).2 != 0 then(jr,(cutS c (aD l)).2)
 else ki key l (cutS c (aD l)).1
theorem mS {c:List Int} {n:Nat} (h:((cutS c n).2 != 0)=false):c.length=320∧(cutS c n).1=c.take n:=by
 unfold cutS at h⊢
 cases h1:(c.length != 320) with
 |true=>rw[h1] at h;simp at h
 |false=>
  rw[h1] at h
  cases h2:nz (c.drop n) with
  |true=>rw[h2] at h;simp at h
  |false=>exact⟨by simpa using h1,rfl⟩
theorem lB {l:Int} {p:List Int} (h:badS l p=false):(innS p).length≤aD l - 34:=by
 unfold badS at h
 rw[Bool.or_eq_false_iff] at h
 have:=of_decide_eq_false h.1
 simp[innS];omega
theorem lf {key c:List Int} {l:Int} (hk:key.length<2^30) (hc:aA c):cY key l c=some (fu key l c):=by
 unfold cY fu
 simp only[iF,aa]
 have e1:(bif (key.length:Int) != 32 then some true else some ((aD l:Int)==0):Option Bool)=some (key.length != 32||aD l==0):=by
  have a:((key.length:Int) != 32)=(key.length != 32):=eM (n:=32)
  have b:((aD l:Int)==0)=(aD l==0):=gf (n:=aD l) (m:=0)
  rw[a,b];cases key.length != 32<;>rfl
 rw[e1]
 simp only[aa]
 cases h1:(key.length != 32||aD l==0) with
 |true=>rfl
 |false=>
  rw[Bool.or_eq_false_iff] at h1
  have hkl:key.length=32:=by simpa using h1.1
  obtain⟨l1,l2,l3⟩:=jo (l:=l) (by simpa using h1.2)
  simp only[cond_false]
  rw[mO rfl (ke l)]
  simp only[aa]
  cases h2:((cutS c (aD l)).2 != 0) with
  |true=>rfl
  |false=>
   obtain⟨c1,c2⟩:=mS h2
   simp only[cond_false]
   rw[c2]
   have ol:(c.take (aD l)).length=aD l:=by rw[List.length_take];omega
   have ob:aA (c.take (aD l)):=fun b h=>hc b (List.mem_of_mem_take h)
   generalize c.take (aD l)=o at*
   unfold ki
   have g1:decide (16≤o.length)=true:=decide_eq_true (by omega)
   have nl:(o.take 16).length=16:=by rw[List.length_take];omega
   have bl:(o.drop 32).length=aD l - 32:=by rw[List.length_drop];omega
   rw[g1,cond_true,jP hkl nl]
   obtain⟨k1,k2,k3⟩:=jp key (o.take 16)
   have kb:=jq key (o.take 16)
   simp only[aa,bne_self_eq_false,cond_false]
   generalize dh key (o.take 16)=ks at*
   rw[cK (l:=32) (i:=32) (j:=o.length) rfl rfl (by omega) (Nat.le_refl _),cK (l:=16) (h:=32) (i:=16) (j:=32) rfl rfl (by omega) (by omega)]
   simp only[aa,List.take_length]
   rw[jQ (by omega) nl (by omega)]
   simp only[aa]
   rw[l8 (a:=(o.take 32).drop 16) (b:=tagO ks l (o.take 16) (o.drop 32)) (fun b h=>ob b (List.mem_of_mem_take (List.mem_of_mem_drop h))) (kg _ _) (by simp;omega)]
   simp only[aa]
   have e2:(!((o.take 32).drop 16==tagO ks l (o.take 16) (o.drop 32)))=((o.take 32).drop 16 != tagO ks l (o.take 16) (o.drop 32)):=rfl
   have hal:(iG ks.Mac ([IntKind.wrap .u8 l]++o.take 16++o.drop 32))=tagO ks l (o.take 16) (o.drop 32):=rfl
   rw[e2]
   cases ((o.take 32).drop 16 != tagO ks l (o.take 16) (o.drop 32)) with
   |true=>rfl
   |false=>
    simp only[cond_false]
    rw[kS k1 kb (by simp) (by omega)]
    simp only[aa]
    have pl:=jg ks.Box (List.replicate 16 0) (o.drop 32)
    have pb:=fw ks.Box (List.replicate 16 0) (o.drop 32)
    generalize eK ks.Box (List.replicate 16 0) (o.drop 32)=p at*
    rw[jR ⟨l1,l2⟩ l3 (by omega) pb]
    simp only[aa]
    cases hbad:badS l p with
    |true=>rfl
    |false=>
     have il:=lB hbad
     simp only[cond_false,Bool.not_true]
     rw[dV (h:=32) (j:=32) rfl (by omega)]
     simp only[aa]
     rw[hZ (by omega) (by simp;omega)]
     simp only[aa]
     have g2:decide (16≤(tagS ks.Replay (o.take 32)).length)=true:=decide_eq_true (by rw[dq];omega)
     rw[g2,cond_true]
     have hh:List.take 16 (tagS ks.Replay (o.take 32))=iG ks.Replay (o.take 32):=rfl
     rw[hh]
     cases hl1:decide (l>1) with
     |true=>
      have:=of_decide_eq_true hl1
      simp only[cond_true]
      rw[mP (by omega)];rfl
     |false=>
      have:=of_decide_eq_false hl1
      simp only[cond_false]
      rw[la (by omega)];rfl
theorem mT {key c:List Int} {l:Int} (hk:key.length<2^30) (hc:aA c):bw key l c=some (fu key l c):=by
 unfold bw fu
 simp only[mQ,aa]
 have e1:(bif (key.length:Int) != 32 then some true else some ((aD l:Int)==0):Option Bool)=some (key.length != 32||aD l==0):=by
  have a:((key.length:Int) != 32)=(key.length != 32):=eM (n:=32)
  have b:((aD l:Int)==0)=(aD l==0):=gf (n:=aD l) (m:=0)
  rw[a,b];cases key.length != 32<;>rfl
 rw[e1]
 simp only[aa]
 cases h1:(key.length != 32||aD l==0) with
 |true=>rfl
 |false=>
  rw[Bool.or_eq_false_iff] at h1
  have hkl:key.length=32:=by simpa using h1.1
  obtain⟨l1,l2,l3⟩:=jo (l:=l) (by simpa using h1.2)
  simp only[cond_false]
  rw[nH rfl (ke l)]
  simp only[aa]
  cases h2:((cutS c (aD l)).2 != 0) with
  |true=>rfl
  |false=>
   obtain⟨c1,c2⟩:=mS h2
   simp only[cond_false]
   rw[c2]
   have ol:(c.take (aD l)).length=aD l:=by rw[List.length_take];omega
   have ob:aA (c.take (aD l)):=fun b h=>hc b (List.mem_of_mem_take h)
   generalize c.take (aD l)=o at*
   unfold ki
   have nl:(o.take 16).length=16:=by rw[List.length_take];omega
   have bl:(o.drop 32).length=aD l - 32:=by rw[List.length_drop];omega
   rw[ao (fun i=>((i:Int),part1 16 (fun j=>o.getD j 0) (fun _=>0) i,part1 16 (fun j=>o.getD (16+j) 0) (fun _=>0) i)) 0 16 (r:=(o.take 16,(o.take 32).drop 16)) (by omega) ?_ ?_ (by rfl)]
   rotate_left
   · intro i _ hi
     have h1:decide ((i:Int)<16)=true:=decide_eq_true (by omega)
     simp only[h1,cond_true]
     rw[ai (xs:=o) (z:=(i:Int)) rfl (by omega),wrap64 (x:=16+(i:Int)) (by omega),ai (xs:=o) (z:=16+(i:Int)) (i:=16+i) (by omega) (by omega)]
     simp only[aa]
     rw[aS rfl (by omega),aS rfl (by omega)]
     simp only[aa,Int.toNat_natCast]
     rw[wrap64 (by omega),aN (f:=fun j=>o.getD j 0) (by omega) rfl,aN (f:=fun j=>o.getD (16+j) 0) (by omega) rfl];rfl
   · have h1:decide (((16:Nat):Int)<16)=false:=by decide
     simp only[h1,cond_false]
     rw[bU,bU]
     have r1:(List.range 16).map (fun j=>o.getD j 0)=o.take 16:=by
      apply cO
      · simp;omega
      · intro j hj;simp at hj;simp[hj,List.getElem?_take]
     have r2:(List.range 16).map (fun j=>o.getD (16+j) 0)=(o.take 32).drop 16:=by
      apply cO
      · simp;omega
      · intro j hj;simp at hj;simp[hj,List.getElem?_take,List.getElem?_drop,show 16+j<32 by omega]
     rw[r1,r2]
   simp only[aa]
   rw[g8 hkl nl]
   obtain⟨k1,k2,k3⟩:=jp key (o.take 16)
   have kb:=jq key (o.take 16)
   simp only[aa]
   generalize dh key (o.take 16)=ks at*
   rw[cK (l:=32) (i:=32) (j:=o.length) rfl rfl (by omega) (Nat.le_refl _)]
   simp only[aa,List.take_length]
   rw[nJ (by omega) nl (by omega)]
   simp only[aa]
   cases ((o.take 32).drop 16 != tagO ks l (o.take 16) (o.drop 32)) with
   |true=>rfl
   | false =>
     simp only[cond_false]
     rw[mu k1 kb (by simp) (by omega)]
     simp only[aa]
     have pl:=jg ks.Box (List.replicate 16 0) (o.drop 32)
     have pb:=fw ks.Box (List.replicate 16 0) (o.drop 32)
     generalize eK ks.Box (List.replicate 16 0) (o.drop 32)=p at*
     rw[ai (z:=0) (i:=0) rfl (by omega),ai (z:=1) (i:=1) rfl (by omega)]
     simp only[aa]
     have h0:=aX pb 0
     have h1':=aX pb 1
     have hn:=lA pb
     have en:IntKind.wrap .i64 ((IntKind.wrap .i64 (256*(IntKind.wrap .i64 (p.getD 0 0))))+(IntKind.wrap .i64 (p.getD 1 0)))=(lenS p:Int):=by
      rw[wrap64 (x:=p.getD 0 0) (by omega),wrap64 (x:=p.getD 1 0) (by omega),wrap64 (x:=256*p.getD 0 0) (by omega),wrap64 (by omega)]
      unfold lenS;omega
     rw[en,wrap64 (x:=(aD l:Int) - 34) (by omega)]
     have il:(decide (lenS p>aD l - 34)||nz (p.drop (2+lenS p)))=false→((p.take (2+lenS p)).drop 2).length≤aD l - 34:=lB
     have hB:badS l p=(decide (lenS p>aD l - 34)||nz (p.drop (2+lenS p))):=rfl
     have hI:innS p=(p.take (2+lenS p)).drop 2:=rfl
     rw[hB,hI]
     clear hB hI
     generalize lenS p=n at*
     cases hc1:decide (n>aD l - 34) with
     |true=>
      have:decide ((n:Int)>(aD l:Int) - 34)=true:=decide_eq_true (by have:=of_decide_eq_true hc1;omega)
      rw[this];rfl
     |false=>
      have hc':=of_decide_eq_false hc1
      have:decide ((n:Int)>(aD l:Int) - 34)=false:=decide_eq_false (by omega)
      rw[this,cond_false,wrap64 (x:=2+(n:Int)) (by omega)]
      rw[gg (p:=fun i=>p.getD i 0 != 0) (good:= .inl ()) (bad:= .inr (jr,71)) (nz (p.drop (2+n))) (2+n) p.length (by omega) jO ?_ (bd (decide_eq_false (by omega))) (by omega)]
      · rw[hc1] at il
        simp only[Bool.false_or] at il⊢
        cases hz:nz (p.drop (2+n)) with
        |true=>rfl
        |false=>
         have il:=il hz
         simp only[cond_false,aa]
         rw[dV (h:=32) (j:=32) rfl (by omega)]
         simp only[aa]
         rw[kh (by omega) (by simp;omega)]
         simp only[aa]
         rw[cK (l:=2) (i:=2) (j:=2+n) rfl (by omega) (by omega) (by omega)]
         simp only[aa]
         cases hl1:decide (l>1) with
         |true=>
          have:=of_decide_eq_true hl1
          simp only[cond_true]
          rw[nI (by omega)];rfl
         |false=>
          have:=of_decide_eq_false hl1
          simp only[cond_false]
          rw[mc (by omega)];rfl
      · intro i i1 hi
        have h1:decide ((i:Int)<(p.length:Int))=true:=decide_eq_true (by omega)
        rw[h1,cond_true,ai rfl hi]
        simp only[aa]
        rw[wrap64 (by omega)];cases p.getD i 0 != 0<;>rfl
def HP:List Int:=[99,104,117,114,110,32,104,111,112]
def epL (e:Int):List Int:=(List.range 8).map fun i=>IntKind.wrap .u8 (shrI .i64 e ((56 - 8*i:Nat):Int))
def badK (key:List Int) (e:Int):Bool:=key.length != 32||decide (e<0)||decide (e>4611686018427387904)
def keyS (key:List Int) (e:Int):List Int×Int:=bif badK key e then([],2) else(derS key (epL e) HP 32,0)
theorem js {key:List Int} {e:Int}:cJ key e=some (keyS key e):=by
 unfold cJ keyS
 have a:((key.length:Int) != 32)=(key.length != 32):=eM (n:=32)
 have hB:badK key e=(key.length != 32||decide (e<0)||decide (e>4611686018427387904)):=rfl
 rw[a,←hB]
 cases hb:badK key e with
 |true=>rfl
 |false=>
  rw[hB,Bool.or_eq_false_iff,Bool.or_eq_false_iff] at hb
  have hk:key.length=32:=by simpa using hb.1.1
  have g:mkB 8 8=true:=by decide
  have g2:decide (0<[99,104,117,114,110,32,104,111,112].length)=true:=by decide
  simp only[cond_false]
  have hp:[99,104,117,114,110,32,104,111,112]=HP:=rfl
  rw[g,cond_true,g2,hp]
  simp only[cond_true]
  rw[ao (fun i=>(part1 8 (fun i=>IntKind.wrap .u8 (shrI .i64 e ((56 - 8*i:Nat):Int))) (fun _=>0) i,(i:Int))) 0 8 (r:=epL e) (by omega) ?_ ?_ (by rfl)]
  · simp only[aa]
    rw[fV (z:=32) (n:=32) rfl (by omega) (by omega) (by simp[epL]) (by simp[HP])]
    simp only[aa]
  · intro i _ hi
    have h1:decide ((i:Int)<((List.replicate (Int.toNat 8) (0:Int)).length:Int))=true:=decide_eq_true (by simp;omega)
    simp only[h1,cond_true]
    rw[wrap64 (x:=8*(i:Int)) (by omega),wrap64 (x:=56 - 8*(i:Int)) (by omega)]
    have g3:decide (0≤56 - 8*(i:Int))=true:=decide_eq_true (by omega)
    rw[g3,cond_true,aS rfl hi]
    simp only[aa,Int.toNat_natCast]
    have e3:56 - 8*(i:Int)=((56 - 8*i:Nat):Int):=by omega
    rw[wrap64 (by omega),e3,aN (f:=fun i=>IntKind.wrap .u8 (shrI .i64 e ((56 - 8*i:Nat):Int))) hi rfl];rfl
  · have h1:decide (((8:Nat):Int)<((List.replicate (Int.toNat 8) (0:Int)).length:Int))=false:=by decide
    simp only[h1,cond_false]
    rw[bU];rfl
theorem nK {key:List Int} {e:Int}:cy key e=some (keyS key e):=by
 unfold cy keyS
 have a:((key.length:Int) != 32)=(key.length != 32):=eM (n:=32)
 have hB:badK key e=(key.length != 32||decide (e<0)||decide (e>4611686018427387904)):=rfl
 rw[a,←hB]
 cases hb:badK key e with
 |true=>rfl
 |false=>
  rw[hB,Bool.or_eq_false_iff,Bool.or_eq_false_iff] at hb
  have hk:key.length=32:=by simpa using hb.1.1
  have g2:decide (0<[99,104,117,114,110,32,104,111,112].length)=true:=by decide
  simp only[cond_false]
  have hp:[99,104,117,114,110,32,104,111,112]=HP:=rfl
  rw[g2,hp]
  simp only[cond_true]
  rw[ao (fun i=>((List.range i).map (fun i=>IntKind.wrap .u8 (shrI .i64 e ((56 - 8*i:Nat):Int))),56 - 8*(i:Int))) 0 8 (r:=epL e) (by omega) ?_ (bd rfl) (by rfl)]
  · simp only[aa]
    rw[fW (z:=32) (n:=32) rfl (by omega) (by omega) (by simp[epL]) (by simp[HP])]
    simp only[aa]
  · intro i _ hi
    have h1:decide (56 - 8*(i:Int)≥0)=true:=decide_eq_true (by omega)
    simp only[h1,cond_true]
    rw[fN (x:=56 - 8*(i:Int)) (by omega)]
    have g3:decide (0≤56 - 8*(i:Int))=true:=decide_eq_true (by omega)
    rw[g3,cond_true,aV (by simp[room];omega)]
    simp only[aa]
    have e3:56 - 8*(i:Int)=((56 - 8*i:Nat):Int):=by omega
    have e4:((56 - 8*i:Nat):Int) - 8=56 - 8*((i+1:Nat):Int):=by omega
    rw[wrap64 (by omega),e3,e4,List.range_succ,List.map_append];rfl
theorem mU {key:List Int} {e:Int} (h:(keyS key e).2=0):(keyS key e).1.length=32:=by
 unfold keyS at h⊢
 cases hb:badK key e with
 |true=>rw[hb] at h;simp at h
 |false=>simp only[cond_false];exact fB _ _ _ _
end Go.Proofs.YtdkfkpbijdimkaaGreatDoor
