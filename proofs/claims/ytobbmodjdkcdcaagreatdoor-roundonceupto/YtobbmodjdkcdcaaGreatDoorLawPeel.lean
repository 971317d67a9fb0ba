import Derived.Test.YtobbmodjdkcdcaaGreatDoorLawOnion
set_option linter.all false
set_option maxRecDepth 20000
set_option maxHeartbeats 1000000
namespace Go.Proofs.YtobbmodjdkcdcaaGreatDoor
open Go Go.Sim
variable [Fu]
theorem DU:∀a:Fin 256,shlI .i64 ((a.val:Nat):Int) 8=((256*a.val:Nat):Int):=by decide+kernel
theorem FJ {a b:Nat} (ha:a<256) (hb:b<256):orI .i64 ((256*a:Nat):Int) (b:Int)=((256*a+b:Nat):Int):=by have h:orI .i64 ((256*a:Nat):Int) (b:Int)=IntKind.wrap .i64 ((BitVec.ofInt 64 ((256*a:Nat):Int)|||BitVec.ofInt 64 (b:Int)).toNat:Int):=rfl;rw[h];(have h2:(BitVec.ofInt 64 ((256*a:Nat):Int)|||BitVec.ofInt 64 (b:Int)).toNat=256*a+b:=by rw[BitVec.toNat_or,BitVec.toNat_ofInt,BitVec.toNat_ofInt];(have h1:(((256*a:Nat):Int)%((2^64:Nat):Int)).toNat=256*a:=by omega);(have h2:((b:Int)%((2^64:Nat):Int)).toNat=b:=by omega);rw[h1,h2];have:=Nat.shiftLeft_add_eq_or_of_lt (b:=b) (i:=8) (by omega) a;rw[Nat.shiftLeft_eq] at this;(have e:256*a=a*2^8:=by omega);rw[e];exact this.symm);rw[h2,wrap64 (by omega)]
def mM:ai:=⟨[],List.replicate 16 0⟩
def lenS (p:List Int):Nat:=256*(p.getD 0 0).toNat+(p.getD 1 0).toNat
def badS (l:Int) (p:List Int):Bool:=decide (lenS p>bi l - 34)||nz (p.drop (2+lenS p))
def innS (p:List Int):List Int:=(p.take (2+lenS p)).drop 2
theorem DV {p:List Int} (hb:aH p):orI .i64 (shlI .i64 (IntKind.wrap .i64 (p.getD 0 0)) 8) (IntKind.wrap .i64 (p.getD 1 0))=(lenS p:Int):=by have h0:=fo hb 0;have h1:=fo hb 1;unfold lenS;generalize p.getD 0 0=x at*;generalize p.getD 1 0=y at*;obtain⟨a,rfl⟩:∃a:Nat,x=a:=⟨x.toNat,by omega⟩;obtain⟨b,rfl⟩:∃b:Nat,y=b:=⟨y.toNat,by omega⟩;rw[wrap64 (by omega),wrap64 (by omega),DU ⟨a,by omega⟩,FJ (by omega) (by omega)];simp
theorem tX {p:List Int} (hb:aH p):lenS p≤65535:=by have h0:=fo hb 0;have h1:=fo hb 1;unfold lenS;omega
theorem yn {p:List Int} {l:Int} (hl:1≤l∧l≤8) (hs:(bi l:Int)=48+34*l) (hp:p.length=bi l - 32) (hb:aH p): iX p l=some (bif badS l p then([],false) else(innS p,true)):=by unfold iX lV;rw[qK];simp only[ab];rw[ar (z:=0) (i:=0) rfl (by omega),ar (z:=1) (i:=1) rfl (by omega)];simp only[ab];rw[DV hb];have hn:=tX hb;have hB:badS l p=(decide (lenS p>bi l - 34)||nz (p.drop (2+lenS p))):=rfl;have hI:innS p=(p.take (2+lenS p)).drop 2:=rfl;rw[hB,hI];generalize lenS p=n at*;rw[wrap64 (x:=(bi l:Int) - 34) (by omega)];cases hc:decide (n>bi l - 34) with|true=>have:decide ((n:Int)>(bi l:Int) - 34)=true:=decide_eq_true (by have:=of_decide_eq_true hc;omega);rw[this];rfl|false=>have hc':=of_decide_eq_false hc;have:decide ((n:Int)>(bi l:Int) - 34)=false:=decide_eq_false (by omega);rw[this,cond_false,wrap64 (by omega),je (l:=2+(n:Int)) (i:=2+n) (j:=p.length) (by omega) rfl (by omega) (Nat.le_refl _)];simp only[ab,List.take_length,Bool.false_or];generalize hx:p.drop (2+n)=x;(have hxl:x.length≤p.length:=by rw[←hx,List.length_drop];omega);rw[nf (p:=λi=>x.getD i 0 != 0) (good:= .inl ()) (bad:= .inr ([],false)) (nz x) 0 x.length (by omega) (by have:=yj (l:=x) (a:=0);rw[List.drop_zero] at this;exact this) ?_ (cX (decide_eq_false (by omega))) (by rfl)];(cases nz x with|true=>rfl|false=>simp only[cond_false,ab];rw[je (l:=2) (i:=2) (j:=2+n) rfl (by omega) (by omega) (by omega)];rfl);intro i _ hi;have h1:decide ((i:Int)<(x.length:Int))=true:=decide_eq_true (by omega);rw[h1,cond_true,ar rfl hi];simp only[ab];rw[wrap64 (by omega)];cases x.getD i 0 != 0<;>rfl
def BX (key:List Int) (l:Int) (o:List Int):ai×Int:=bif (o.take 32).drop 16 != tagO (lz key (o.take 16)) l (o.take 16) (o.drop 32) then(mM,70) else bif badS l (lZ (lz key (o.take 16)).Box (List.replicate 16 0) (o.drop 32)) then(mM,71) else(⟨bif decide (l>1) then padS (innS (lZ (lz key (o.take 16)).Box (List.replicate 16 0) (o.drop 32))) else uS (innS (lZ (lz key (o.take 16)).Box (List.replicate 16 0) (o.drop 32))),rv (lz key (o.take 16)).Replay (o.take 32)⟩,0)
def fZ (key:List Int) (l:Int) (c:List Int):ai×Int:=bif key.length != 32||bi l==0 then(mM,2) else bif (cutS c (bi l)).2 != 0 then(mM,(cutS c (bi l)).2) else BX key l (cutS c (bi l)).1
theorem DW {c:List Int} {n:Nat} (h:((cutS c n).2 != 0)=false):c.length=320∧(cutS c n).1=c.take n:=by unfold cutS at h⊢;cases h1:(c.length != 320) with|true=>rw[h1] at h;simp at h|false=>rw[h1] at h;cases h2:nz (c.drop n) with|true=>rw[h2] at h;simp at h|false=>exact⟨by simpa using h1,rfl⟩
theorem BY {l:Int} {p:List Int} (h:badS l p=false):(innS p).length≤bi l - 34:=by unfold badS at h;rw[Bool.or_eq_false_iff] at h;have:=of_decide_eq_false h.1;simp[innS];omega
theorem Bp {key c:List Int} {l:Int} (hk:key.length<2^30) (hc:aH c):jl key l c=some (fZ key l c):=by unfold jl fZ;simp only[qK,ab];(have e1:(bif (key.length:Int) != 32 then some true else some ((bi l:Int)==0):Option Bool)=some (key.length != 32||bi l==0):=by have a:((key.length:Int) != 32)=(key.length != 32):=qb (n:=32);have b:((bi l:Int)==0)=(bi l==0):=rh (n:=bi l) (m:=0);rw[a,b];cases key.length != 32<;>rfl);rw[e1];simp only[ab];cases h1:(key.length != 32||bi l==0) with|true=>rfl|false=>rw[Bool.or_eq_false_iff] at h1;(have hkl:key.length=32:=by simpa using h1.1);obtain⟨l1,l2,l3⟩:=xd (l:=l) (by simpa using h1.2);simp only[cond_false];rw[DS rfl (rr l)];simp only[ab];cases h2:((cutS c (bi l)).2 != 0) with|true=>rfl|false=>obtain⟨c1,c2⟩:=DW h2;simp only[cond_false];rw[c2];(have ol:(c.take (bi l)).length=bi l:=by rw[List.length_take];omega);have ob:aH (c.take (bi l)):=λb h=>hc b (List.mem_of_mem_take h);generalize c.take (bi l)=o at*;unfold BX;have g1:decide (16≤o.length)=true:=decide_eq_true (by omega);(have nl:(o.take 16).length=16:=by rw[List.length_take];omega);(have bl:(o.drop 32).length=bi l - 32:=by rw[List.length_drop];omega);rw[g1,cond_true,yl hkl nl];obtain⟨k1,k2,k3⟩:=xe key (o.take 16);have kb:=xf key (o.take 16);simp only[ab,bne_self_eq_false,cond_false];generalize lz key (o.take 16)=ks at*;rw[je (l:=32) (i:=32) (j:=o.length) rfl rfl (by omega) (Nat.le_refl _),je (l:=16) (h:=32) (i:=16) (j:=32) rfl rfl (by omega) (by omega)];simp only[ab,List.take_length];rw[ym (by omega) nl (by omega)];simp only[ab];rw[CK (a:=(o.take 32).drop 16) (b:=tagO ks l (o.take 16) (o.drop 32)) (λb h=>ob b (List.mem_of_mem_take (List.mem_of_mem_drop h))) (sY _ _) (by simp;omega)];simp only[ab];have e2:(!((o.take 32).drop 16==tagO ks l (o.take 16) (o.drop 32)))=((o.take 32).drop 16 != tagO ks l (o.take 16) (o.drop 32)):=rfl;have hal:(rv ks.Mac ([IntKind.wrap .u8 l]++o.take 16++o.drop 32))=tagO ks l (o.take 16) (o.drop 32):=rfl;rw[e2];cases ((o.take 32).drop 16 != tagO ks l (o.take 16) (o.drop 32)) with|true=>rfl|false=>simp only[cond_false];rw[un k1 kb (by simp) (by omega)];simp only[ab];have pl:=sj ks.Box (List.replicate 16 0) (o.drop 32);have pb:=sR ks.Box (List.replicate 16 0) (o.drop 32);generalize lZ ks.Box (List.replicate 16 0) (o.drop 32)=p at*;rw[yn ⟨l1,l2⟩ l3 (by omega) pb];simp only[ab];cases hbad:badS l p with|true=>rfl|false=>have il:=BY hbad;simp only[cond_false,Bool.not_true];rw[ju (h:=32) (j:=32) rfl (by omega)];simp only[ab];rw[tU (by omega) (by simp;omega)];simp only[ab];have g2:decide (16≤(tagS ks.Replay (o.take 32)).length)=true:=decide_eq_true (by rw[jv];omega);rw[g2,cond_true];have hh:List.take 16 (tagS ks.Replay (o.take 32))=rv ks.Replay (o.take 32):=rfl;rw[hh];cases hl1:decide (l>1) with|true=>have:=of_decide_eq_true hl1;simp only[cond_true];rw[zX (by omega)];rfl|false=>have:=of_decide_eq_false hl1;simp only[cond_false];rw[Bn (by omega)];rfl
theorem DX {key c:List Int} {l:Int} (hk:key.length<2^30) (hc:aH c):fg key l c=some (fZ key l c):=by
 unfold fg fZ
 simp only[DT,ab]
 have e1:(bif (key.length:Int) != 32 then some true else some ((bi l:Int)==0):Option Bool)=some (key.length != 32||bi l==0):=by
  have a:((key.length:Int) != 32)=(key.length != 32):=qb (n:=32)
  have b:((bi l:Int)==0)=(bi l==0):=rh (n:=bi l) (m:=0)
  rw[a,b];cases key.length != 32<;>rfl
 rw[e1]
 simp only[ab]
 cases h1:(key.length != 32||bi l==0) with
 |true=>rfl
 |false=>
  rw[Bool.or_eq_false_iff] at h1
  have hkl:key.length=32:=by simpa using h1.1
  obtain⟨l1,l2,l3⟩:=xd (l:=l) (by simpa using h1.2)
  simp only[cond_false]
  rw[E5 rfl (rr l)]
  simp only[ab]
  cases h2:((cutS c (bi l)).2 != 0) with
  |true=>rfl
  |false=>
   obtain⟨c1,c2⟩:=DW h2
   simp only[cond_false]
   rw[c2]
   have ol:(c.take (bi l)).length=bi l:=by rw[List.length_take];omega
   have ob:aH (c.take (bi l)):=λb h=>hc b (List.mem_of_mem_take h)
   generalize c.take (bi l)=o at*
   unfold BX
   have nl:(o.take 16).length=16:=by rw[List.length_take];omega
   have bl:(o.drop 32).length=bi l - 32:=by rw[List.length_drop];omega
   rw[aP (λi=>((i:Int),part1 16 (λj=>o.getD j 0) (λ_=>0) i,part1 16 (λj=>o.getD (16+j) 0) (λ_=>0) i)) 0 16 (r:=(o.take 16,(o.take 32).drop 16)) (by omega) ?_ ?_ (by rfl)]
   rotate_left
   · intro i _ hi
     have h1:decide ((i:Int)<16)=true:=decide_eq_true (by omega)
     simp only[h1,cond_true]
     rw[ar (xs:=o) (z:=(i:Int)) rfl (by omega),wrap64 (x:=16+(i:Int)) (by omega),ar (xs:=o) (z:=16+(i:Int)) (i:=16+i) (by omega) (by omega)]
     simp only[ab]
     rw[dn rfl (by omega),dn rfl (by omega)]
     simp only[ab,Int.toNat_natCast]
     rw[wrap64 (by omega),cV (f:=λj=>o.getD j 0) (by omega) rfl,cV (f:=λj=>o.getD (16+j) 0) (by omega) rfl];rfl
   · have h1:decide (((16:Nat):Int)<16)=false:=by decide
     simp only[h1,cond_false]
     rw[fy,fy]
     have r1:(List.range 16).map (λj=>o.getD j 0)=o.take 16:=by
      apply iL
      · simp;omega
      · intro j hj;simp at hj;simp[hj,List.getElem?_take]
     have r2:(List.range 16).map (λj=>o.getD (16+j) 0)=(o.take 32).drop 16:=by
      apply iL
      · simp;omega
      · intro j hj;simp at hj;simp[hj,List.getElem?_take,List.getElem?_drop,show 16+j<32 by omega]
     rw[r1,r2]
   simp only[ab]
   rw[tx hkl nl]
   obtain⟨k1,k2,k3⟩:=xe key (o.take 16)
   have kb:=xf key (o.take 16)
   simp only[ab]
   generalize lz key (o.take 16)=ks at*
   rw[je (l:=32) (i:=32) (j:=o.length) rfl rfl (by omega) (Nat.le_refl _)]
   simp only[ab,List.take_length]
   rw[E7 (by omega) nl (by omega)]
   simp only[ab]
   cases ((o.take 32).drop 16 != tagO ks l (o.take 16) (o.drop 32)) with
   |true=>rfl
   | false =>
     simp only[cond_false]
     rw[Dy k1 kb (by simp) (by omega)]
     simp only[ab]
     have pl:=sj ks.Box (List.replicate 16 0) (o.drop 32)
     have pb:=sR ks.Box (List.replicate 16 0) (o.drop 32)
     generalize lZ ks.Box (List.replicate 16 0) (o.drop 32)=p at*
     rw[ar (z:=0) (i:=0) rfl (by omega),ar (z:=1) (i:=1) rfl (by omega)]
     simp only[ab]
     have h0:=fo pb 0
     have h1':=fo pb 1
     have hn:=tX pb
     have en:IntKind.wrap .i64 ((IntKind.wrap .i64 (256*(IntKind.wrap .i64 (p.getD 0 0))))+(IntKind.wrap .i64 (p.getD 1 0)))=(lenS p:Int):=by
      rw[wrap64 (x:=p.getD 0 0) (by omega),wrap64 (x:=p.getD 1 0) (by omega),wrap64 (x:=256*p.getD 0 0) (by omega),wrap64 (by omega)]
      unfold lenS;omega
     rw[en,wrap64 (x:=(bi l:Int) - 34) (by omega)]
     have il:(decide (lenS p>bi l - 34)||nz (p.drop (2+lenS p)))=false→((p.take (2+lenS p)).drop 2).length≤bi l - 34:=BY
     have hB:badS l p=(decide (lenS p>bi l - 34)||nz (p.drop (2+lenS p))):=rfl
     have hI:innS p=(p.take (2+lenS p)).drop 2:=rfl
     rw[hB,hI]
     clear hB hI
     generalize lenS p=n at*
     cases hc1:decide (n>bi l - 34) with
     |true=>
      have:decide ((n:Int)>(bi l:Int) - 34)=true:=decide_eq_true (by have:=of_decide_eq_true hc1;omega)
      rw[this];rfl
     |false=>
      have hc':=of_decide_eq_false hc1
      have:decide ((n:Int)>(bi l:Int) - 34)=false:=decide_eq_false (by omega)
      rw[this,cond_false,wrap64 (x:=2+(n:Int)) (by omega)]
      rw[nf (p:=λi=>p.getD i 0 != 0) (good:= .inl ()) (bad:= .inr (mM,71)) (nz (p.drop (2+n))) (2+n) p.length (by omega) yj ?_ (cX (decide_eq_false (by omega))) (by omega)]
      · rw[hc1] at il
        simp only[Bool.false_or] at il⊢
        cases hz:nz (p.drop (2+n)) with
        |true=>rfl
        |false=>
         have il:=il hz
         simp only[cond_false,ab]
         rw[ju (h:=32) (j:=32) rfl (by omega)]
         simp only[ab]
         rw[zZ (by omega) (by simp;omega)]
         simp only[ab]
         rw[je (l:=2) (i:=2) (j:=2+n) rfl (by omega) (by omega) (by omega)]
         simp only[ab]
         cases hl1:decide (l>1) with
         |true=>
          have:=of_decide_eq_true hl1
          simp only[cond_true]
          rw[E6 (by omega)];rfl
         |false=>
          have:=of_decide_eq_false hl1
          simp only[cond_false]
          rw[CX (by omega)];rfl
      · intro i i1 hi
        have h1:decide ((i:Int)<(p.length:Int))=true:=decide_eq_true (by omega)
        rw[h1,cond_true,ar rfl hi]
        simp only[ab]
        rw[wrap64 (by omega)];cases p.getD i 0 != 0<;>rfl
def HP:List Int:=[99,104,117,114,110,32,104,111,112]
def epL (e:Int):List Int:=(List.range 8).map λi=>IntKind.wrap .u8 (shrI .i64 e ((56 - 8*i:Nat):Int))
def badK (key:List Int) (e:Int):Bool:=key.length != 32||decide (e<0)||decide (e>4611686018427387904)
def keyS (key:List Int) (e:Int):List Int×Int:=bif badK key e then([],2) else(derS key (epL e) HP 32,0)
theorem CZ {key:List Int} {e:Int}:lC key e=some (keyS key e):=by unfold lC keyS;have a:((key.length:Int) != 32)=(key.length != 32):=qb (n:=32);have hB:badK key e=(key.length != 32||decide (e<0)||decide (e>4611686018427387904)):=rfl;rw[a,←hB];cases hb:badK key e with|true=>rfl|false=>rw[hB,Bool.or_eq_false_iff,Bool.or_eq_false_iff] at hb;(have hk:key.length=32:=by simpa using hb.1.1);(have g:mkB 8 8=true:=by decide);(have g2:decide (0<[99,104,117,114,110,32,104,111,112].length)=true:=by decide);simp only[cond_false];have hp:[99,104,117,114,110,32,104,111,112]=HP:=rfl;rw[g,cond_true,g2,hp];simp only[cond_true];rw[aP (λi=>(part1 8 (λi=>IntKind.wrap .u8 (shrI .i64 e ((56 - 8*i:Nat):Int))) (λ_=>0) i,(i:Int))) 0 8 (r:=epL e) (by omega) ?_ ?_ (by rfl)];simp only[ab];rw[uO (z:=32) (n:=32) rfl (by omega) (by omega) (by simp[epL]) (by simp[HP])];simp only[ab];intro i _ hi;have h1:decide ((i:Int)<((List.replicate (Int.toNat 8) (0:Int)).length:Int))=true:=decide_eq_true (by simp;omega);simp only[h1,cond_true];rw[wrap64 (x:=8*(i:Int)) (by omega),wrap64 (x:=56 - 8*(i:Int)) (by omega)];have g3:decide (0≤56 - 8*(i:Int))=true:=decide_eq_true (by omega);rw[g3,cond_true,dn rfl hi];simp only[ab,Int.toNat_natCast];(have e3:56 - 8*(i:Int)=((56 - 8*i:Nat):Int):=by omega);rw[wrap64 (by omega),e3,cV (f:=λi=>IntKind.wrap .u8 (shrI .i64 e ((56 - 8*i:Nat):Int))) hi rfl];rfl;(have h1:decide (((8:Nat):Int)<((List.replicate (Int.toNat 8) (0:Int)).length:Int))=false:=by decide);simp only[h1,cond_false];rw[fy];rfl
theorem Fa {key:List Int} {e:Int}:gW key e=some (keyS key e):=by unfold gW keyS;have a:((key.length:Int) != 32)=(key.length != 32):=qb (n:=32);have hB:badK key e=(key.length != 32||decide (e<0)||decide (e>4611686018427387904)):=rfl;rw[a,←hB];cases hb:badK key e with|true=>rfl|false=>rw[hB,Bool.or_eq_false_iff,Bool.or_eq_false_iff] at hb;(have hk:key.length=32:=by simpa using hb.1.1);(have g2:decide (0<[99,104,117,114,110,32,104,111,112].length)=true:=by decide);simp only[cond_false];have hp:[99,104,117,114,110,32,104,111,112]=HP:=rfl;rw[g2,hp];simp only[cond_true];rw[aP (λi=>((List.range i).map (λi=>IntKind.wrap .u8 (shrI .i64 e ((56 - 8*i:Nat):Int))),56 - 8*(i:Int))) 0 8 (r:=epL e) (by omega) ?_ (cX rfl) (by rfl)];simp only[ab];rw[uP (z:=32) (n:=32) rfl (by omega) (by omega) (by simp[epL]) (by simp[HP])];simp only[ab];intro i _ hi;have h1:decide (56 - 8*(i:Int)≥0)=true:=decide_eq_true (by omega);simp only[h1,cond_true];rw[ig (x:=56 - 8*(i:Int)) (by omega)];have g3:decide (0≤56 - 8*(i:Int))=true:=decide_eq_true (by omega);rw[g3,cond_true,aR (by simp[room];omega)];simp only[ab];(have e3:56 - 8*(i:Int)=((56 - 8*i:Nat):Int):=by omega);(have e4:((56 - 8*i:Nat):Int) - 8=56 - 8*((i+1:Nat):Int):=by omega);rw[wrap64 (by omega),e3,e4,List.range_succ,List.map_append];rfl
theorem Aa {key:List Int} {e:Int} (h:(keyS key e).2=0):(keyS key e).1.length=32:=by unfold keyS at h⊢;cases hb:badK key e with|true=>rw[hb] at h;simp at h|false=>simp only[cond_false];exact ru _ _ _ _
end Go.Proofs.YtobbmodjdkcdcaaGreatDoor
