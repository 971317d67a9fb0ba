import Derived.Test.YtobbmodjdkcdcaaGreatDoorLawOnion
set_option linter.unusedVariables false
set_option linter.unusedSimpArgs false
set_option maxRecDepth 20000
set_option maxHeartbeats 1000000
namespace Go.Proofs.YtobbmodjdkcdcaaGreatDoor
open Go Go.Sim
set_option linter.unusedSectionVars false
variable [Fu]
theorem BF:∀a:Fin 256,shlI .i64 ((a.val:Nat):Int) 8=((256*a.val:Nat):Int):=by decide+kernel
theorem C5 {a b:Nat} (ha:a<256) (hb:b<256):orI .i64 ((256*a:Nat):Int) (b:Int)=((256*a+b:Nat):Int):=by
 have h:orI .i64 ((256*a:Nat):Int) (b:Int)=IntKind.wrap .i64 ((BitVec.ofInt 64 ((256*a:Nat):Int)|||BitVec.ofInt 64 (b:Int)).toNat:Int):=rfl
 rw[h]
 have h2:(BitVec.ofInt 64 ((256*a:Nat):Int)|||BitVec.ofInt 64 (b:Int)).toNat=256*a+b:=by
  rw[BitVec.toNat_or,BitVec.toNat_ofInt,BitVec.toNat_ofInt]
  have h1:(((256*a:Nat):Int)%((2^64:Nat):Int)).toNat=256*a:=by omega
  have h2:((b:Int)%((2^64:Nat):Int)).toNat=b:=by omega
  rw[h1,h2]
  have:=Nat.shiftLeft_add_eq_or_of_lt (b:=b) (i:=8) (by omega) a
  rw[Nat.shiftLeft_eq] at this
  have e:256*a=a*2^8:=by omega
  rw[e];exact this.symm
 rw[h2,wrap64 (by omega)]
def zy:an:=⟨[],List.replicate 16 0⟩
def lenS (p:List Int):Nat:=256*(p.getD 0 0).toNat+(p.getD 1 0).toNat
def badS (l:Int) (p:List Int):Bool:=decide (lenS p>bT l - 34)||nz (p.drop (2+lenS p))
def innS (p:List Int):List Int:=(p.take (2+lenS p)).drop 2
theorem BG {p:List Int} (hb:aS p):orI .i64 (shlI .i64 (IntKind.wrap .i64 (p.getD 0 0)) 8) (IntKind.wrap .i64 (p.getD 1 0))=(lenS p:Int):=by
 have h0:=fR hb 0
 have h1:=fR hb 1
 unfold lenS
 generalize p.getD 0 0=x at*
 generalize p.getD 1 0=y at*
 obtain⟨a,rfl⟩:∃a:Nat,x=a:=⟨x.toNat,by omega⟩
 obtain⟨b,rfl⟩:∃b:Nat,y=b:=⟨y.toNat,by omega⟩
 rw[wrap64 (by omega),wrap64 (by omega),BF ⟨a,by omega⟩,C5 (by omega) (by omega)]
 simp
theorem zz {p:List Int} (hb:aS p):lenS p≤65535:=by
 have h0:=fR hb 0
 have h1:=fR hb 1
 unfold lenS;omega
theorem vZ {p:List Int} {l:Int} (hl:1≤l∧l≤8) (hs:(bT l:Int)=48+34*l) (hp:p.length=bT l - 32) (hb:aS p):
  gr p l=some (bif badS l p then([],false) else(innS p,true)):=by
 unfold gr jP
 rw[oc]
 simp only[ae]
 rw[aK (z:=0) (i:=0) rfl (by omega),aK (z:=1) (i:=1) rfl (by omega)]
 simp only[ae]
 rw[BG hb]
 have hn:=zz hb
 have hB:badS l p=(decide (lenS p>bT l - 34)||nz (p.drop (2+lenS p))):=rfl
 have hI:innS p=(p.take (2+lenS p)).drop 2:=rfl
 rw[hB,hI]
 generalize lenS p=n at*
 rw[wrap64 (x:=(bT l:Int) - 34) (by omega)]
 cases hc:decide (n>bT l - 34) with
 |true=>
  have:decide ((n:Int)>(bT l:Int) - 34)=true:=decide_eq_true (by have:=of_decide_eq_true hc;omega)
  rw[this];rfl
 |false=>
  have hc':=of_decide_eq_false hc
  have:decide ((n:Int)>(bT l:Int) - 34)=false:=decide_eq_false (by omega)
  rw[this,cond_false,wrap64 (by omega),jM (l:=2+(n:Int)) (i:=2+n) (j:=p.length) (by omega) rfl (by omega) (Nat.le_refl _)]
  simp only[ae,List.take_length,Bool.false_or]
  generalize hx:p.drop (2+n)=x
  have hxl:x.length≤p.length:=by rw[←hx,List.length_drop];omega
  rw[xq (p:=fun i=>x.getD i 0 != 0) (good:= .inl ()) (bad:= .inr ([],false)) (nz x) 0 x.length (by omega) (by have:=BC (l:=x) (a:=0);rw[List.drop_zero] at this;exact this) ?_ (gU (decide_eq_false (by omega))) (by rfl)]
  · cases nz x with
    |true=>rfl
    |false=>
     simp only[cond_false,ae]
     rw[jM (l:=2) (i:=2) (j:=2+n) rfl (by omega) (by omega) (by omega)];rfl
  · intro i _ hi
    have h1:decide ((i:Int)<(x.length:Int))=true:=decide_eq_true (by omega)
    rw[h1,cond_true,aK rfl hi]
    simp only[ae]
    rw[wrap64 (by omega)];cases x.getD i 0 != 0<;>rfl
def BH (key:List Int) (l:Int) (o:List Int):an×Int:=
 bif (o.take 32).drop 16 != tagO (kw key (o.take 16)) l (o.take 16) (o.drop 32) then(zy,70)
 else bif badS l (lK (kw key (o.take 16)).Box (List.replicate 16 0) (o.drop 32)) then(zy,71)
 else(⟨bif decide (l>1) then padS (innS (lK (kw key (o.take 16)).Box (List.replicate 16 0) (o.drop 32))) else BE (innS (lK (kw key (o.take 16)).Box (List.replicate 16 0) (o.drop 32))),s8 (kw key (o.take 16)).Replay (o.take 32)⟩,0)
def li (key:List Int) (l:Int) (c:List Int):an×Int:=
 bif key.length != 32||bT l==0 then(zy,2)
 else bif (cutS c (bT l)).2 != 0 then(zy,(cutS c (bT l)).2)
 else BH key l (cutS c (bT l)).1
theorem C6 {c:List Int} {n:Nat} (h:((cutS c n).2 != 0)=false):c.length=320∧(cutS c n).1=c.take n:=by
 unfold cutS at h⊢
 cases h1:(c.length != 320) with
 |true=>rw[h1] at h;simp at h
 |false=>
  rw[h1] at h
  cases h2:nz (c.drop n) with
  |true=>rw[h2] at h;simp at h
  |false=>exact⟨by simpa using h1,rfl⟩
theorem CI {l:Int} {p:List Int} (h:badS l p=false):(innS p).length≤bT l - 34:=by
 unfold badS at h
 rw[Bool.or_eq_false_iff] at h
 have:=of_decide_eq_false h.1
 simp[innS];omega
theorem od {key c:List Int} {l:Int} (hk:key.length<2^30) (hc:aS c):dL key l c=some (li key l c):=by
 unfold dL li
 simp only[oc,ae]
 have e1:(bif (key.length:Int) != 32 then some true else some ((bT l:Int)==0):Option Bool)=some (key.length != 32||bT l==0):=by
  have a:((key.length:Int) != 32)=(key.length != 32):=vW (n:=32)
  have b:((bT l:Int)==0)=(bT l==0):=zo (n:=bT l) (m:=0)
  rw[a,b];cases key.length != 32<;>rfl
 rw[e1]
 simp only[ae]
 cases h1:(key.length != 32||bT l==0) with
 |true=>rfl
 |false=>
  rw[Bool.or_eq_false_iff] at h1
  have hkl:key.length=32:=by simpa using h1.1
  obtain⟨l1,l2,l3⟩:=AG (l:=l) (by simpa using h1.2)
  simp only[cond_false]
  rw[BD rfl (xu l)]
  simp only[ae]
  cases h2:((cutS c (bT l)).2 != 0) with
  |true=>rfl
  |false=>
   obtain⟨c1,c2⟩:=C6 h2
   simp only[cond_false]
   rw[c2]
   have ol:(c.take (bT l)).length=bT l:=by rw[List.length_take];omega
   have ob:aS (c.take (bT l)):=fun b h=>hc b (List.mem_of_mem_take h)
   generalize c.take (bT l)=o at*
   unfold BH
   have g1:decide (16≤o.length)=true:=decide_eq_true (by omega)
   have nl:(o.take 16).length=16:=by rw[List.length_take];omega
   have bl:(o.drop 32).length=bT l - 32:=by rw[List.length_drop];omega
   rw[g1,cond_true,vX hkl nl]
   obtain⟨k1,k2,k3⟩:=AH key (o.take 16)
   have kb:=AI key (o.take 16)
   simp only[ae,bne_self_eq_false,cond_false]
   generalize kw key (o.take 16)=ks at*
   rw[jM (l:=32) (i:=32) (j:=o.length) rfl rfl (by omega) (Nat.le_refl _),jM (l:=16) (h:=32) (i:=16) (j:=32) rfl rfl (by omega) (by omega)]
   simp only[ae,List.take_length]
   rw[vY (by omega) nl (by omega)]
   simp only[ae]
   rw[Ax (a:=(o.take 32).drop 16) (b:=tagO ks l (o.take 16) (o.drop 32)) (fun b h=>ob b (List.mem_of_mem_take (List.mem_of_mem_drop h))) (qX _ _) (by simp;omega)]
   simp only[ae]
   have e2:(!((o.take 32).drop 16==tagO ks l (o.take 16) (o.drop 32)))=((o.take 32).drop 16 != tagO ks l (o.take 16) (o.drop 32)):=rfl
   have hal:(s8 ks.Mac ([IntKind.wrap .u8 l]++o.take 16++o.drop 32))=tagO ks l (o.take 16) (o.drop 32):=rfl
   rw[e2]
   cases ((o.take 32).drop 16 != tagO ks l (o.take 16) (o.drop 32)) with
   |true=>rfl
   |false=>
    simp only[cond_false]
    rw[sK k1 kb (by simp) (by omega)]
    simp only[ae]
    have pl:=uy ks.Box (List.replicate 16 0) (o.drop 32)
    have pb:=w8 ks.Box (List.replicate 16 0) (o.drop 32)
    generalize lK ks.Box (List.replicate 16 0) (o.drop 32)=p at*
    rw[vZ ⟨l1,l2⟩ l3 (by omega) pb]
    simp only[ae]
    cases hbad:badS l p with
    |true=>rfl
    |false=>
     have il:=CI hbad
     simp only[cond_false,Bool.not_true]
     rw[mj (h:=32) (j:=32) rfl (by omega)]
     simp only[ae]
     rw[rK (by omega) (by simp;omega)]
     simp only[ae]
     have g2:decide (16≤(tagS ks.Replay (o.take 32)).length)=true:=decide_eq_true (by rw[jZ];omega)
     rw[g2,cond_true]
     have hh:List.take 16 (tagS ks.Replay (o.take 32))=s8 ks.Replay (o.take 32):=rfl
     rw[hh]
     cases hl1:decide (l>1) with
     |true=>
      have:=of_decide_eq_true hl1
      simp only[cond_true]
      rw[xr (by omega)];rfl
     |false=>
      have:=of_decide_eq_false hl1
      simp only[cond_false]
      rw[yR (by omega)];rfl
def HP:List Int:=[99,104,117,114,110,32,104,111,112]
def epL (e:Int):List Int:=(List.range 8).map fun i=>IntKind.wrap .u8 (shrI .i64 e ((56 - 8*i:Nat):Int))
def badK (key:List Int) (e:Int):Bool:=key.length != 32||decide (e<0)||decide (e>4611686018427387904)
def keyS (key:List Int) (e:Int):List Int×Int:=bif badK key e then([],2) else(derS key (epL e) HP 32,0)
theorem qo {key:List Int} {e:Int}:fH key e=some (keyS key e):=by
 unfold fH keyS
 have a:((key.length:Int) != 32)=(key.length != 32):=vW (n:=32)
 have hB:badK key e=(key.length != 32||decide (e<0)||decide (e>4611686018427387904)):=rfl
 rw[a,←hB]
 cases hb:badK key e with
 |true=>rfl
 |false=>
  rw[hB,Bool.or_eq_false_iff,Bool.or_eq_false_iff] at hb
  have hk:key.length=32:=by simpa using hb.1.1
  have g:mkB 8 8=true:=by decide
  have g2:decide (0<[99,104,117,114,110,32,104,111,112].length)=true:=by decide
  simp only[cond_false]
  have hp:[99,104,117,114,110,32,104,111,112]=HP:=rfl
  rw[g,cond_true,g2,hp]
  simp only[cond_true]
  rw[aV (fun i=>(part1 8 (fun i=>IntKind.wrap .u8 (shrI .i64 e ((56 - 8*i:Nat):Int))) (fun _=>0) i,(i:Int))) 0 8 (r:=epL e) (by omega) ?_ ?_ (by rfl)]
  · simp only[ae]
    rw[sV (z:=32) (n:=32) rfl (by omega) (by omega) (by simp[epL]) (by simp[HP])]
    simp only[ae]
  · intro i _ hi
    have h1:decide ((i:Int)<((List.replicate (Int.toNat 8) (0:Int)).length:Int))=true:=decide_eq_true (by simp;omega)
    simp only[h1,cond_true]
    rw[wrap64 (x:=8*(i:Int)) (by omega),wrap64 (x:=56 - 8*(i:Int)) (by omega)]
    have g3:decide (0≤56 - 8*(i:Int))=true:=decide_eq_true (by omega)
    rw[g3,cond_true,iH rfl hi]
    simp only[ae,Int.toNat_natCast]
    have e3:56 - 8*(i:Int)=((56 - 8*i:Nat):Int):=by omega
    rw[wrap64 (by omega),e3,fU (f:=fun i=>IntKind.wrap .u8 (shrI .i64 e ((56 - 8*i:Nat):Int))) hi rfl];rfl
  · have h1:decide (((8:Nat):Int)<((List.replicate (Int.toNat 8) (0:Int)).length:Int))=false:=by decide
    simp only[h1,cond_false]
    rw[jr];rfl
theorem s9 {key:List Int} {e:Int} (h:(keyS key e).2=0):(keyS key e).1.length=32:=by
 unfold keyS at h⊢
 cases hb:badK key e with
 |true=>rw[hb] at h;simp at h
 |false=>simp only[cond_false];exact sZ _ _ _ _
end Go.Proofs.YtobbmodjdkcdcaaGreatDoor
