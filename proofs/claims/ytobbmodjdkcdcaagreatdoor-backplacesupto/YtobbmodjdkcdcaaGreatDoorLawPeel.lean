import Derived.Test.YtobbmodjdkcdcaaGreatDoorLawOnion
set_option linter.unusedVariables false
set_option linter.unusedSimpArgs false
set_option maxRecDepth 20000
set_option maxHeartbeats 1000000
namespace Go.Proofs.YtobbmodjdkcdcaaGreatDoor
open Go Go.Sim
set_option linter.unusedSectionVars false
variable [Fu]
theorem wl:∀a:Fin 256,shlI .i64 ((a.val:Nat):Int) 8=((256*a.val:Nat):Int):=by decide+kernel
theorem xX {a b:Nat} (ha:a<256) (hb:b<256):orI .i64 ((256*a:Nat):Int) (b:Int)=((256*a+b:Nat):Int):=by
 have h:orI .i64 ((256*a:Nat):Int) (b:Int)=IntKind.wrap .i64 ((BitVec.ofInt 64 ((256*a:Nat):Int)|||BitVec.ofInt 64 (b:Int)).toNat:Int):=rfl
 rw[h]
 have h2:(BitVec.ofInt 64 ((256*a:Nat):Int)|||BitVec.ofInt 64 (b:Int)).toNat=256*a+b:=by
  rw[BitVec.toNat_or,BitVec.toNat_ofInt,BitVec.toNat_ofInt]
  have h1:(((256*a:Nat):Int)%((2^64:Nat):Int)).toNat=256*a:=by omega
  have h2:((b:Int)%((2^64:Nat):Int)).toNat=b:=by omega
  rw[h1,h2]
  have:=Nat.shiftLeft_add_eq_or_of_lt (b:=b) (i:=8) (by omega) a
  rw[Nat.shiftLeft_eq] at this
  have e:256*a=a*2^8:=by omega
  rw[e];exact this.symm
 rw[h2,wrap64 (by omega)]
def un:au:=⟨[],List.replicate 16 0⟩
def lenS (p:List Int):Nat:=256*(p.getD 0 0).toNat+(p.getD 1 0).toNat
def badS (l:Int) (p:List Int):Bool:=decide (lenS p>aU l - 34)||nz (p.drop (2+lenS p))
def innS (p:List Int):List Int:=(p.take (2+lenS p)).drop 2
theorem xY {p:List Int} (hb:be p):orI .i64 (shlI .i64 (IntKind.wrap .i64 (p.getD 0 0)) 8) (IntKind.wrap .i64 (p.getD 1 0))=(lenS p:Int):=by
 have h0:=dP hb 0
 have h1:=dP hb 1
 unfold lenS
 generalize p.getD 0 0=x at*
 generalize p.getD 1 0=y at*
 obtain⟨a,rfl⟩:∃a:Nat,x=a:=⟨x.toNat,by omega⟩
 obtain⟨b,rfl⟩:∃b:Nat,y=b:=⟨y.toNat,by omega⟩
 rw[wrap64 (by omega),wrap64 (by omega),wl ⟨a,by omega⟩,xX (by omega) (by omega)]
 simp
theorem xg {p:List Int} (hb:be p):lenS p≤65535:=by
 have h0:=dP hb 0
 have h1:=dP hb 1
 unfold lenS;omega
theorem rv {p:List Int} {l:Int} (hl:1≤l∧l≤8) (hs:(aU l:Int)=48+34*l) (hp:p.length=aU l - 32) (hb:be p):
  fq p l=some (bif badS l p then([],false) else(innS p,true)):=by
 unfold fq fC
 rw[jf]
 simp only[ae]
 rw[aW (z:=0) (i:=0) rfl (by omega),aW (z:=1) (i:=1) rfl (by omega)]
 simp only[ae]
 rw[xY hb]
 have hn:=xg hb
 have hB:badS l p=(decide (lenS p>aU l - 34)||nz (p.drop (2+lenS p))):=rfl
 have hI:innS p=(p.take (2+lenS p)).drop 2:=rfl
 rw[hB,hI]
 generalize lenS p=n at*
 rw[wrap64 (x:=(aU l:Int) - 34) (by omega)]
 cases hc:decide (n>aU l - 34) with
 |true=>
  have:decide ((n:Int)>(aU l:Int) - 34)=true:=decide_eq_true (by have:=of_decide_eq_true hc;omega)
  rw[this];rfl
 |false=>
  have hc':=of_decide_eq_false hc
  have:decide ((n:Int)>(aU l:Int) - 34)=false:=decide_eq_false (by omega)
  rw[this,cond_false,wrap64 (by omega),gx (l:=2+(n:Int)) (i:=2+n) (j:=p.length) (by omega) rfl (by omega) (Nat.le_refl _)]
  simp only[ae,List.take_length,Bool.false_or]
  generalize hx:p.drop (2+n)=x
  have hxl:x.length≤p.length:=by rw[←hx,List.length_drop];omega
  rw[se (p:=fun i=>x.getD i 0 != 0) (good:= .inl ()) (bad:= .inr ([],false)) (nz x) 0 x.length (by omega) (by have:=wk (l:=x) (a:=0);rw[List.drop_zero] at this;exact this) ?_ (hN (decide_eq_false (by omega))) (by rfl)]
  · cases nz x with
    |true=>rfl
    |false=>
     simp only[cond_false,ae]
     rw[gx (l:=2) (i:=2) (j:=2+n) rfl (by omega) (by omega) (by omega)];rfl
  · intro i _ hi
    have h1:decide ((i:Int)<(x.length:Int))=true:=decide_eq_true (by omega)
    rw[h1,cond_true,aW rfl hi]
    simp only[ae]
    rw[wrap64 (by omega)];cases x.getD i 0 != 0<;>rfl
def uo (key:List Int) (l:Int) (o:List Int):au×Int:=
 bif (o.take 32).drop 16 != tagO (fM key (o.take 16)) l (o.take 16) (o.drop 32) then(un,70)
 else bif badS l (fH (fM key (o.take 16)).Box (List.replicate 16 0) (o.drop 32)) then(un,71)
 else(⟨bif decide (l>1) then padS (innS (fH (fM key (o.take 16)).Box (List.replicate 16 0) (o.drop 32))) else oY (innS (fH (fM key (o.take 16)).Box (List.replicate 16 0) (o.drop 32))),oZ (fM key (o.take 16)).Replay (o.take 32)⟩,0)
def lM (key:List Int) (l:Int) (c:List Int):au×Int:=
 bif key.length != 32||aU l==0 then(un,2)
 else bif (cutS c (aU l)).2 != 0 then(un,(cutS c (aU l)).2)
 else uo key l (cutS c (aU l)).1
theorem xZ {c:List Int} {n:Nat} (h:((cutS c n).2 != 0)=false):c.length=320∧(cutS c n).1=c.take n:=by
 unfold cutS at h⊢
 cases h1:(c.length != 320) with
 |true=>rw[h1] at h;simp at h
 |false=>
  rw[h1] at h
  cases h2:nz (c.drop n) with
  |true=>rw[h2] at h;simp at h
  |false=>exact⟨by simpa using h1,rfl⟩
theorem xh {l:Int} {p:List Int} (h:badS l p=false):(innS p).length≤aU l - 34:=by
 unfold badS at h
 rw[Bool.or_eq_false_iff] at h
 have:=of_decide_eq_false h.1
 simp[innS];omega
theorem tz {key c:List Int} {l:Int} (hk:key.length<2^30) (hc:be c):eS key l c=some (lM key l c):=by
 unfold eS lM
 simp only[jf,ae]
 have e1:(bif (key.length:Int) != 32 then some true else some ((aU l:Int)==0):Option Bool)=some (key.length != 32||aU l==0):=by
  have a:((key.length:Int) != 32)=(key.length != 32):=nX (n:=32)
  have b:((aU l:Int)==0)=(aU l==0):=rk (n:=aU l) (m:=0)
  rw[a,b];cases key.length != 32<;>rfl
 rw[e1]
 simp only[ae]
 cases h1:(key.length != 32||aU l==0) with
 |true=>rfl
 |false=>
  rw[Bool.or_eq_false_iff] at h1
  have hkl:key.length=32:=by simpa using h1.1
  obtain⟨l1,l2,l3⟩:=qz (l:=l) (by simpa using h1.2)
  simp only[cond_false]
  rw[oW rfl (jL l)]
  simp only[ae]
  cases h2:((cutS c (aU l)).2 != 0) with
  |true=>rfl
  |false=>
   obtain⟨c1,c2⟩:=xZ h2
   simp only[cond_false]
   rw[c2]
   have ol:(c.take (aU l)).length=aU l:=by rw[List.length_take];omega
   have ob:be (c.take (aU l)):=fun b h=>hc b (List.mem_of_mem_take h)
   generalize c.take (aU l)=o at*
   unfold uo
   have g1:decide (16≤o.length)=true:=decide_eq_true (by omega)
   have nl:(o.take 16).length=16:=by rw[List.length_take];omega
   have bl:(o.drop 32).length=aU l - 32:=by rw[List.length_drop];omega
   rw[g1,cond_true,mz hkl nl]
   obtain⟨k1,k2,k3⟩:=qF key (o.take 16)
   have kb:=qK key (o.take 16)
   simp only[ae,bne_self_eq_false,cond_false]
   generalize fM key (o.take 16)=ks at*
   rw[gx (l:=32) (i:=32) (j:=o.length) rfl rfl (by omega) (Nat.le_refl _),gx (l:=16) (h:=32) (i:=16) (j:=32) rfl rfl (by omega) (by omega)]
   simp only[ae,List.take_length]
   rw[mF (by omega) nl (by omega)]
   simp only[ae]
   rw[vh (a:=(o.take 32).drop 16) (b:=tagO ks l (o.take 16) (o.drop 32)) (fun b h=>ob b (List.mem_of_mem_take (List.mem_of_mem_drop h))) (nr _ _) (by simp;omega)]
   simp only[ae]
   have e2:(!((o.take 32).drop 16==tagO ks l (o.take 16) (o.drop 32)))=((o.take 32).drop 16 != tagO ks l (o.take 16) (o.drop 32)):=rfl
   have hal:(oZ ks.Mac ([IntKind.wrap .u8 l]++o.take 16++o.drop 32))=tagO ks l (o.take 16) (o.drop 32):=rfl
   rw[e2]
   cases ((o.take 32).drop 16 != tagO ks l (o.take 16) (o.drop 32)) with
   |true=>rfl
   |false=>
    simp only[cond_false]
    rw[oz k1 kb (by simp) (by omega)]
    simp only[ae]
    have pl:=jI ks.Box (List.replicate 16 0) (o.drop 32)
    have pb:=nj ks.Box (List.replicate 16 0) (o.drop 32)
    generalize fH ks.Box (List.replicate 16 0) (o.drop 32)=p at*
    rw[rv ⟨l1,l2⟩ l3 (by omega) pb]
    simp only[ae]
    cases hbad:badS l p with
    |true=>rfl
    |false=>
     have il:=xh hbad
     simp only[cond_false,Bool.not_true]
     rw[la (h:=32) (j:=32) rfl (by omega)]
     simp only[ae]
     rw[nW (by omega) (by simp;omega)]
     simp only[ae]
     have g2:decide (16≤(tagS ks.Replay (o.take 32)).length)=true:=decide_eq_true (by rw[jd];omega)
     rw[g2,cond_true]
     have hh:List.take 16 (tagS ks.Replay (o.take 32))=oZ ks.Replay (o.take 32):=rfl
     rw[hh]
     cases hl1:decide (l>1) with
     |true=>
      have:=of_decide_eq_true hl1
      simp only[cond_true]
      rw[sf (by omega)];rfl
     |false=>
      have:=of_decide_eq_false hl1
      simp only[cond_false]
      rw[tv (by omega)];rfl
def HP:List Int:=[99,104,117,114,110,32,104,111,112]
def epL (e:Int):List Int:=(List.range 8).map fun i=>IntKind.wrap .u8 (shrI .i64 e ((56 - 8*i:Nat):Int))
def badK (key:List Int) (e:Int):Bool:=key.length != 32||decide (e<0)||decide (e>4611686018427387904)
def keyS (key:List Int) (e:Int):List Int×Int:=bif badK key e then([],2) else(derS key (epL e) HP 32,0)
theorem qM {key:List Int} {e:Int}:eL key e=some (keyS key e):=by
 unfold eL keyS
 have a:((key.length:Int) != 32)=(key.length != 32):=nX (n:=32)
 have hB:badK key e=(key.length != 32||decide (e<0)||decide (e>4611686018427387904)):=rfl
 rw[a,←hB]
 cases hb:badK key e with
 |true=>rfl
 |false=>
  rw[hB,Bool.or_eq_false_iff,Bool.or_eq_false_iff] at hb
  have hk:key.length=32:=by simpa using hb.1.1
  have g:mkB 8 8=true:=by decide
  have g2:decide (0<[99,104,117,114,110,32,104,111,112].length)=true:=by decide
  simp only[cond_false]
  have hp:[99,104,117,114,110,32,104,111,112]=HP:=rfl
  rw[g,cond_true,g2,hp]
  simp only[cond_true]
  rw[bw (fun i=>(part1 8 (fun i=>IntKind.wrap .u8 (shrI .i64 e ((56 - 8*i:Nat):Int))) (fun _=>0) i,(i:Int))) 0 8 (r:=epL e) (by omega) ?_ ?_ (by rfl)]
  · simp only[ae]
    rw[lU (z:=32) (n:=32) rfl (by omega) (by omega) (by simp[epL]) (by simp[HP])]
    simp only[ae]
  · intro i _ hi
    have h1:decide ((i:Int)<((List.replicate (Int.toNat 8) (0:Int)).length:Int))=true:=decide_eq_true (by simp;omega)
    simp only[h1,cond_true]
    rw[wrap64 (x:=8*(i:Int)) (by omega),wrap64 (x:=56 - 8*(i:Int)) (by omega)]
    have g3:decide (0≤56 - 8*(i:Int))=true:=decide_eq_true (by omega)
    rw[g3,cond_true,gb rfl hi]
    simp only[ae,Int.toNat_natCast]
    have e3:56 - 8*(i:Int)=((56 - 8*i:Nat):Int):=by omega
    rw[wrap64 (by omega),e3,eF (f:=fun i=>IntKind.wrap .u8 (shrI .i64 e ((56 - 8*i:Nat):Int))) hi rfl];rfl
  · have h1:decide (((8:Nat):Int)<((List.replicate (Int.toNat 8) (0:Int)).length:Int))=false:=by decide
    simp only[h1,cond_false]
    rw[gy];rfl
theorem wm {key:List Int} {e:Int} (h:(keyS key e).2=0):(keyS key e).1.length=32:=by
 unfold keyS at h⊢
 cases hb:badK key e with
 |true=>rw[hb] at h;simp at h
 |false=>simp only[cond_false];exact my _ _ _ _
end Go.Proofs.YtobbmodjdkcdcaaGreatDoor
