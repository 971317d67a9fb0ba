import Derived.Test.YtobbmodjdkcdcaaGreatDoorLawWrap
set_option linter.unusedVariables false
set_option linter.unusedSimpArgs false
set_option linter.unusedSectionVars false
set_option maxRecDepth 20000
set_option maxHeartbeats 1000000
namespace Go.Proofs.YtobbmodjdkcdcaaGreatDoor
open Go Go.Sim
variable [Fu]
theorem wq {x y:Int} (h:0≤x∧x<256):xorI .u8 (xorI .u8 x y) y=x:=by
 have e:∀a b:Int,xorI .u8 a b=((BitVec.ofInt 8 a^^^BitVec.ofInt 8 b).toNat:Int):=fun a b=>by
  show IntKind.wrap .u8 ((BitVec.ofInt 8 a^^^BitVec.ofInt 8 b).toNat:Int)=_
  have:=(BitVec.ofInt 8 a^^^BitVec.ofInt 8 b).isLt
  rw[wrap8];omega
 rw[e,e]
 have e2:BitVec.ofInt 8 ((BitVec.ofInt 8 x^^^BitVec.ofInt 8 y).toNat:Int)=BitVec.ofInt 8 x^^^BitVec.ofInt 8 y:=by
  apply BitVec.eq_of_toNat_eq
  have:=(BitVec.ofInt 8 x^^^BitVec.ofInt 8 y).isLt
  rw[BitVec.toNat_ofInt];omega
 rw[e2,BitVec.xor_assoc,BitVec.xor_self,BitVec.xor_zero,BitVec.toNat_ofInt];omega
theorem gAt {a:List Int} {j:Nat} (h:j<a.length):a.getD j 0=a[j]:=by simp[List.getD,h]
theorem vf {key iv m:List Int} (hb:aS m):gj key iv (gj key iv m)=m:=by
 have hl:(gj key iv m).length=m.length:=ly key iv m
 apply List.ext_getElem
 · rw[ly,hl]
 · intro i h1 h2
   have hx:=fP hb i
   have hg:(gj key iv m).getD i 0=xorI .u8 (m.getD i 0) ((strm key iv (i / 16)).getD (i%16) 0):=by
    rw[gAt (by omega)];simp[gj]
   have:(gj key iv (gj key iv m))[i]=xorI .u8 ((gj key iv m).getD i 0) ((strm key iv (i / 16)).getD (i%16) 0):=by
    simp[gj]
   rw[this,hg,wq ⟨hx.1,by omega⟩,gAt h2]
theorem tZ {l:Int} {x:List Int} (hb:aS x):aS (fR l x):=by
 intro b h
 unfold fR at h
 simp only[List.mem_cons,List.mem_append,List.mem_replicate] at h
 rcases h with rfl|rfl|h|⟨_,rfl⟩
 · rw[wrap8];omega
 · rw[wrap8];omega
 · exact hb b h
 · omega
theorem vg {l:Int} {x:List Int} (hx:x.length≤320):lenS (fR l x)=x.length:=by
 unfold lenS fR
 have h2:shrI .i64 (x.length:Int) 8=((x.length / 256:Nat):Int):=by
  unfold shrI
  show(x.length:Int).fdiv 256=_
  rw[Int.fdiv_eq_ediv_of_nonneg _ (by omega)];omega
 simp only[List.getD_cons_zero,List.getD_cons_succ]
 rw[h2,wrap8,wrap8];omega
theorem vh (k:Nat):nz (List.replicate k (0:Int))=false:=by
 simp[nz]
theorem vi {l:Int} {x:List Int} (hx:x.length≤320) (hs:x.length≤ba l - 34):badS l (fR l x)=false∧innS (fR l x)=x:=by
 unfold badS innS
 rw[vg hx]
 have e:fR l x=[IntKind.wrap .u8 (shrI .i64 (x.length:Int) 8),IntKind.wrap .u8 (x.length:Int)]++x++List.replicate (ba l - 34 - x.length) 0:=rfl
 have hl:([IntKind.wrap .u8 (shrI .i64 (x.length:Int) 8),IntKind.wrap .u8 (x.length:Int)]++x).length=2+x.length:=by simp;omega
 constructor
 · rw[Bool.or_eq_false_iff]
   refine⟨decide_eq_false (by omega),?_⟩
   rw[e,←hl,List.drop_left']
   · exact vh _
   · rfl
 · rw[e,←hl,List.take_left']
   · rfl
   · rfl
theorem zh {w:List Int} (h:w.length≤320):cutS (padS w) w.length=(w,0):=by
 unfold cutS padS
 have hl:(w++List.replicate (320 - w.length) (0:Int)).length=320:=by simp;omega
 have e:((w++List.replicate (320 - w.length) (0:Int)).length != 320)=false:=by rw[hl];rfl
 rw[e,cond_false,List.drop_left' rfl,vh,cond_false,List.take_left' rfl]
theorem pM {key nonce x:List Int} {l:Int} (hk:key.length=32) (hn:nonce.length=16) (hl:1≤l∧l≤8) (hs:(ba l:Int)=48+34*l) (hb:aS x) (hx:x.length≤ba l - 34):
  (kq key nonce l x).2=0∧(kq key nonce l x).1.length≤320∧(qd key l (padS (kq key nonce l x).1)).2=0∧(qd key l (padS (kq key nonce l x).1)).1.Cell=bif decide (l>1) then padS x else tT x:=by
 have h320:=lB l
 have h0:(ba l==0)=false:=by simp;omega
 have hc:decide ((x.length:Int)>(ba l:Int) - 34)=false:=decide_eq_false (by omega)
 have e:kq key nonce l x=(nonce++tagO (gP key nonce) l nonce (boxW key nonce l x)++boxW key nonce l x,0):=by
  unfold kq;rw[h0,hc];rfl
 have hl16:(tagO (gP key nonce) l nonce (boxW key nonce l x)).length=16:=pL _ _
 have hbl:(boxW key nonce l x).length=ba l - 32:=by unfold boxW;rw[ly,nU (by omega) (by omega)]
 have hm:gj (gP key nonce).Box (List.replicate 16 0) (boxW key nonce l x)=fR l x:=by
  unfold boxW;exact vf (tZ hb)
 rw[e]
 generalize hT:tagO (gP key nonce) l nonce (boxW key nonce l x)=T at*
 generalize boxW key nonce l x=B at*
 have hwl:(nonce++T++B).length=ba l:=by simp only[List.length_append];omega
 have c:=zh (w:=nonce++T++B) (by omega)
 rw[hwl] at c
 have hp:qd key l (padS (nonce++T++B))=zb key l (nonce++T++B):=by
  unfold qd
  have e1:(key.length != 32||ba l==0)=false:=by rw[hk,h0];rfl
  rw[e1,c];rfl
 have t16:(nonce++T++B).take 16=nonce:=by rw[List.append_assoc];exact List.take_left' hn
 have t32:((nonce++T++B).take 32).drop 16=T:=by
  rw[List.take_left' (by simp;omega)];exact List.drop_left' hn
 have d32:(nonce++T++B).drop 32=B:=List.drop_left' (by simp;omega)
 obtain⟨p1,p2⟩:=vi (l:=l) (x:=x) (by omega) hx
 refine⟨rfl,by show(nonce++T++B).length≤320;omega,?_⟩
 show(qd key l (padS (nonce++T++B))).2=0∧(qd key l (padS (nonce++T++B))).1.Cell=_
 rw[hp]
 unfold zb
 rw[t32,t16,d32,hT,bne_self_eq_false,cond_false,hm,p1,cond_false,p2]
 exact⟨rfl,rfl⟩
end Go.Proofs.YtobbmodjdkcdcaaGreatDoor
