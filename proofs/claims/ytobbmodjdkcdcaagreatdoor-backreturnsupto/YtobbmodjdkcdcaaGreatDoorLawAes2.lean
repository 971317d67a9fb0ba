import Derived.Test.YtobbmodjdkcdcaaGreatDoorLawAes
set_option linter.unusedVariables false
set_option linter.unusedSimpArgs false
set_option maxRecDepth 20000
namespace Go.Proofs.YtobbmodjdkcdcaaGreatDoor
open Go Go.Sim
set_option linter.unusedSectionVars false
variable [Fu]
def box (x:Int):Int:=ig.getD x.toNat 0
theorem yr (x:Int):0≤box x∧box x≤255:=xl _
theorem zX:ig.length=256:=by decide+kernel
theorem wO {x:Int} (h:0≤x∧x≤255):idx ig x=some (box x):=ar (by omega) (by rw[zX];omega)
theorem lu {s:List Int} {n:Nat} (h:s.length=n):(List.range n).map (fun i=>s.getD i 0)=s:=by
 apply jz
 · simp[h]
 · intro j hj;simp at hj;simp[hj]
theorem lv {n:Nat} {f:Nat→Int} (h:∀i,0≤f i∧f i≤255):aS ((List.range n).map f):=by
 intro b hb;obtain⟨i,_,rfl⟩:=List.mem_map.1 hb;exact h i
theorem sn {n i:Nat} {f:Nat→Int} (h:i<n):((List.range n).map f).getD i 0=f i:=by simp[h]
def addL (s:List Int) (k:Nat→Int):List Int:=(List.range 16).map fun i=>xorI .u8 (s.getD i 0) (k i)
theorem ui (s:List Int) (k:Nat→Int):(addL s k).length=16:=by simp[addL]
theorem qU (s:List Int) (k:Nat→Int):aS (addL s k):=lv fun i=>l5 _ _
theorem xm {s k:List Int} (hs:s.length=16) (hk:k.length=16):cL s k=some (addL s fun i=>k.getD i 0):=by
 unfold cL
 rw[aW (fun i=>((i:Int),part1 16 (fun i=>xorI .u8 (s.getD i 0) (k.getD i 0)) (fun i=>s.getD i 0) i)) 0 16 (r:=addL s fun i=>k.getD i 0) (by omega) ?_ ?_ (by rw[kQ,lu hs];rfl)]
 · rfl
 · intro i _ hi
   have h1:decide ((i:Int)<16)=true:=by simp;omega
   simp only[h1,cond_true]
   rw[dk rfl hi,ar rfl (by omega)]
   simp only[af,Nat.lt_irrefl,decide_false,cond_false]
   rw[wrap64 (by omega),Int.toNat_natCast,cS hi rfl];rfl
 · rw[fb];rfl
theorem xn {s k:List Int} {r:Nat} (hs:s.length=16) (hk:k.length=176) (hr:r≤10):db s k r=some (addL s fun i=>k.getD (16*r+i) 0):=by
 unfold db
 rw[aW (fun i=>((i:Int),part1 16 (fun i=>xorI .u8 (s.getD i 0) (k.getD (16*r+i) 0)) (fun i=>s.getD i 0) i)) 0 16 (r:=addL s fun i=>k.getD (16*r+i) 0) (by omega) ?_ ?_ (by rw[kQ,lu hs];rfl)]
 · rfl
 · intro i _ hi
   have h1:decide ((i:Int)<16)=true:=by simp;omega
   simp only[h1,cond_true]
   rw[dk rfl hi,wrap64 (x:=16*(r:Int)) (by omega),wrap64 (x:=16*(r:Int)+(i:Int)) (by omega),ar (i:=16*r+i) (by omega) (by omega)]
   simp only[af,Nat.lt_irrefl,decide_false,cond_false]
   rw[wrap64 (by omega),Int.toNat_natCast,cS hi rfl];rfl
 · rw[fb];rfl
def shL (s:List Int):List Int:=(List.range 16).map fun i=>box (s.getD ((i+4*(i%4))%16) 0)
theorem ne (s:List Int):(shL s).length=16:=by simp[shL]
theorem so (s:List Int):aS (shL s):=lv fun i=>yr _
def subL (s:List Int):List Int:=(List.range 16).map fun i=>box (s.getD i 0)
theorem yt {s:List Int} (hs:s.length=16) (hb:aS s):cM s=some (subL s):=by
 unfold cM
 rw[aW (fun i=>((i:Int),part1 16 (fun i=>box (s.getD i 0)) (fun i=>s.getD i 0) i)) 0 16 (r:=subL s) (by omega) ?_ ?_ (by rw[kQ,lu hs];rfl)]
 · rfl
 · intro i _ hi
   have h1:decide ((i:Int)<16)=true:=by simp;omega
   simp only[h1,cond_true]
   rw[dk rfl hi]
   simp only[af,Nat.lt_irrefl,decide_false,cond_false]
   rw[show cq (s.getD i 0)=some (box (s.getD i 0)) from pw (fP hb i)]
   simp only[af]
   rw[wrap64 (by omega),Int.toNat_natCast,cS (f:=fun i=>box (s.getD i 0)) hi rfl];rfl
 · rw[fb];rfl
def table:List Int:=(List.range 256).map fun i:Nat=>box (i:Int)
theorem yu {s:List Int} (hs:s.length=16) (hb:aS s):cp s table=some (subL s):=by
 unfold cp
 rw[aW (fun i=>((i:Int),part1 16 (fun i=>box (s.getD i 0)) (fun i=>s.getD i 0) i)) 0 16 (r:=subL s) (by omega) ?_ ?_ (by rw[kQ,lu hs];rfl)]
 · rfl
 · intro i _ hi
   have h1:decide ((i:Int)<16)=true:=by simp;omega
   simp only[h1,cond_true]
   rw[dk rfl hi]
   simp only[af,Nat.lt_irrefl,decide_false,cond_false]
   have hbi:=fP hb i
   have e:gL (s.getD i 0) table=some (box (s.getD i 0)):=by
    unfold gL
    rw[ar (i:=(s.getD i 0).toNat) (by omega) (by simp only[table,List.length_map,List.length_range];omega)]
    simp only[af]
    unfold table
    rw[sn (by omega)]
    congr 2;omega
   rw[e]
   simp only[af]
   rw[wrap64 (by omega),Int.toNat_natCast,cS hi rfl];rfl
 · rw[fb];rfl
def lw (n:Nat) (f g:Nat→Int) (p:Nat→Bool):List Int:=(List.range n).map fun j=>bif p j then f j else g j
theorem xo {n:Nat} {f g:Nat→Int} {p:Nat→Bool}:(lw n f g p).length=n:=by simp[lw]
theorem xp {n:Nat} {f g:Nat→Int} {p q:Nat→Bool} {i:Nat} (h:i<n) {v:Int} (hv:v=f i) (hq:∀j,j<n→q j=(p j||j==i)):List.set (lw n f g p) i v=lw n f g q:=by
 subst hv
 apply List.ext_getElem
 · simp[lw]
 · intro k h1 h2
   have hk:k<n:=by simpa[lw] using h2
   simp only[lw,List.getElem_set,List.getElem_map,List.getElem_range]
   rw[hq k hk]
   by_cases e:i=k
   · subst e;simp
   · have:(k==i)=false:=by simp;omega
     rw[if_neg e,this,Bool.or_false]
theorem pW {t:List Int} (ht:t.length=16):dj t 1=some ((List.range 16).map fun i=>t.getD ((i+4*(i%4))%16) 0):=by
 unfold dj
 obtain⟨f,hf⟩:∃f:Nat→Int,f=fun i=>t.getD ((i+4*(i%4))%16) 0:=⟨_,rfl⟩
 rw[←hf]
 rw[aW (fun r=>((r:Int),lw 16 f (fun _=>0) fun j=>decide (j%4<r))) 0 4 (r:=(List.range 16).map f) (by omega) ?_ ?_ (by rfl)]
 · rfl
 · intro r _ hr
   have h1:decide ((r:Int)<4)=true:=by simp;omega
   simp only[h1,cond_true]
   rw[aW (fun c=>((c:Int),lw 16 f (fun _=>0) fun j=>decide (j%4<r)||(j%4==r&&decide (j / 4<c)))) 0 4 (r:=lw 16 f (fun _=>0) fun j=>decide (j%4<r+1)) (by omega) ?_ ?_ ?_]
   · simp only[af]
     rw[wrap64 (by omega)];rfl
   · intro c _ hc
     have h2:decide ((c:Int)<4)=true:=by simp;omega
     simp only[h2,cond_true]
     rw[wrap64 (x:=(r:Int)*1) (by omega),wrap64 (x:=(c:Int)+(r:Int)*1) (by omega)]
     have e1:Int.tmod ((c:Int)+(r:Int)*1) 4=(((c+r)%4:Nat):Int):=by
       have:(c:Int)+(r:Int)*1=((c+r:Nat):Int):=by omega
       rw[this];rfl
     rw[e1,wrap64 (x:=4*(((c+r)%4:Nat):Int)) (by omega),wrap64 (x:=4*(((c+r)%4:Nat):Int)+(r:Int)) (by omega),wrap64 (x:=4*(c:Int)) (by omega),wrap64 (x:=4*(c:Int)+(r:Int)) (by omega),wrap64 (x:=(c:Int)+1) (by omega)]
     rw[ar (i:=4*((c+r)%4)+r) (by omega) (by omega)]
     simp only[af]
     rw[ar (i:=4*c+r) (by omega) (by rw[xo];omega)]
     simp only[af]
     have e2:Int.toNat (4*(c:Int)+(r:Int))=4*c+r:=by omega
     rw[e2,xp (f:=f) (q:=fun j=>decide (j%4<r)||(j%4==r&&decide (j / 4<c+1))) (by omega)]
     · rfl
     · rw[hf];simp only;congr 1;omega
     · intro j hj
       rw[Bool.eq_iff_iff]
       simp only[Bool.or_eq_true,Bool.and_eq_true,decide_eq_true_eq,beq_iff_eq]
       omega
   · have h2:decide (((4:Nat):Int)<4)=false:=by decide
     simp only[h2,cond_false]
     congr 2
     unfold lw
     apply List.map_congr_left
     intro j hj
     have hj:=List.mem_range.1 hj
     have:(decide (j%4<r)||(j%4==r&&decide (j / 4<4)))=decide (j%4<r+1):=by
       rw[Bool.eq_iff_iff]
       simp only[Bool.or_eq_true,Bool.and_eq_true,decide_eq_true_eq,beq_iff_eq]
       omega
     show(bif (decide (j%4<r)||(j%4==r&&decide (j / 4<4))) then f j else 0)=(bif decide (j%4<r+1) then f j else 0)
     rw[this]
   · have:lw 16 f (fun _=>0) (fun j=>decide (j%4<r))=lw 16 f (fun _=>0) (fun j=>decide (j%4<r)||(j%4==r&&decide (j / 4<0))):=by
       congr 1;funext j;simp
     rw[this];rfl
 · have h2:decide (((4:Nat):Int)<4)=false:=by decide
   simp only[h2,cond_false]
   rfl
theorem qV {s:List Int}:((List.range 16).map fun i=>(subL s).getD ((i+4*(i%4))%16) 0)=shL s:=by
 unfold shL subL
 apply List.map_congr_left
 intro i hi
 rw[sn (by omega)]
theorem uj (s:List Int):(subL s).length=16:=by simp[subL]
def mxF (s:List Int) (i:Nat):Int:=xorI .u8 (xorI .u8 (s.getD i 0) (xorI .u8 (xorI .u8 (xorI .u8 (s.getD (i / 4*4) 0) (s.getD (i / 4*4+1) 0)) (s.getD (i / 4*4+2) 0)) (s.getD (i / 4*4+3) 0))) (tw (xorI .u8 (s.getD i 0) (s.getD (i / 4*4+(i%4+1)%4) 0)))
def mxL (s:List Int):List Int:=(List.range 16).map (mxF s)
theorem tq (s:List Int):(mxL s).length=16:=by simp[mxL]
theorem xq {s:List Int} (hs:s.length=16):dP s=some (mxL s):=by
 unfold dP
 rw[aW (fun c=>(((4*c:Nat):Int),part1 16 (mxF s) (fun _=>0) (4*c))) 0 4 (r:=mxL s) (by omega) ?_ ?_ (by rfl)]
 · rfl
 · intro c _ hc
   have h1:decide (((4*c:Nat):Int)<16)=true:=by simp;omega
   simp only[h1,cond_true]
   rw[wrap64 (x:=((4*c:Nat):Int)+1) (by omega),wrap64 (x:=((4*c:Nat):Int)+2) (by omega),wrap64 (x:=((4*c:Nat):Int)+3) (by omega)]
   rw[ar (z:=((4*c:Nat):Int)) (i:=4*c) rfl (by omega),ar (z:=((4*c:Nat):Int)+1) (i:=4*c+1) (by omega) (by omega),ar (z:=((4*c:Nat):Int)+2) (i:=4*c+2) (by omega) (by omega),ar (z:=((4*c:Nat):Int)+3) (i:=4*c+3) (by omega) (by omega)]
   simp only[af]
   rw[aW (fun j=>((j:Int),part1 16 (mxF s) (fun _=>0) (4*c+j))) 0 4 (r:=part1 16 (mxF s) (fun _=>0) (4*(c+1))) (by omega) ?_ ?_ (by rfl)]
   · simp only[af]
     rw[wrap64 (by omega)]
     have:((4*c:Nat):Int)+4=((4*(c+1):Nat):Int):=by omega
     rw[this]
   · intro j _ hj
     have h2:decide ((j:Int)<4)=true:=by simp;omega
     simp only[h2,cond_true]
     rw[wrap64 (x:=((4*c:Nat):Int)+(j:Int)) (by omega),wrap64 (x:=(j:Int)+1) (by omega)]
     have e1:Int.tmod ((j:Int)+1) 4=(((j+1)%4:Nat):Int):=rfl
     rw[e1,wrap64 (x:=((4*c:Nat):Int)+(((j+1)%4:Nat):Int)) (by omega)]
     rw[ar (xs:=s) (z:=((4*c:Nat):Int)+(j:Int)) (i:=4*c+j) (by omega) (by omega),ar (z:=((4*c:Nat):Int)+(((j+1)%4:Nat):Int)) (i:=4*c+(j+1)%4) (by omega) (by omega)]
     simp only[af]
     rw[sj]
     simp only[af]
     rw[dk (k:=4*c+j) (by omega) (by omega)]
     simp only[af]
     have e2:Int.toNat (((4*c:Nat):Int)+(j:Int))=4*c+j:=by omega
     have q1:(4*c+j) / 4*4=4*c:=by omega
     have q2:(4*c+j)%4=j:=by omega
     rw[e2,cS (f:=mxF s) (by omega)]
     · rfl
     · unfold mxF;rw[q1,q2]
   · rfl
 · have h2:decide (((4*4:Nat):Int)<16)=false:=by decide
   simp only[h2,cond_false]
   rw[show 4*4=16 from rfl,fb];rfl
def acc (co:Nat→Int) (v:Nat→Int) (i:Nat):Nat→Int
 |0=>0
 |j+1=>xorI .u8 (acc co v i j) (mul8 (co ((j+4 - i)%4)) (v j))
def coF (k:Nat):Int:=[2,3,1,1].getD k 0
theorem tt {col:List Int} (hl:col.length=4):gM col=some ((List.range 4).map fun i=>acc coF (fun j=>col.getD j 0) i 4):=by
 unfold gM jm
 obtain⟨A,hA⟩:∃A,A=acc coF (fun j=>col.getD j 0):=⟨_,rfl⟩
 have hA0:∀i,A i 0=0:=by rw[hA];intro i;rfl
 have hAS:∀i j,A i (j+1)=xorI .u8 (A i j) (mul8 (coF ((j+4 - i)%4)) (col.getD j 0)):=by rw[hA];intro i j;rfl
 rw[←hA]
 rw[aW (fun i=>((i:Int),part1 4 (fun i=>A i 4) (fun _=>0) i)) 0 4 (r:=(List.range 4).map fun i=>A i 4) (by omega) ?_ ?_ (by rfl)]
 · rfl
 · intro i _ hi
   have h1:decide ((i:Int)<4)=true:=by simp;omega
   simp only[h1,cond_true]
   rw[aW (fun j=>((j:Int),List.set (part1 4 (fun i=>A i 4) (fun _=>0) i) i (A i j))) 0 4 (r:=part1 4 (fun i=>A i 4) (fun _=>0) (i+1)) (by omega) ?_ ?_ ?_]
   · simp only[af]
     rw[wrap64 (by omega)];rfl
   · intro j _ hj
     have h2:decide ((j:Int)<4)=true:=by simp;omega
     simp only[h2,cond_true]
     rw[wrap64 (x:=(j:Int) - (i:Int)) (by omega),wrap64 (x:=(j:Int) - (i:Int)+4) (by omega),wrap64 (x:=(j:Int)+1) (by omega)]
     have e1:Int.tmod ((j:Int) - (i:Int)+4) 4=(((j+4 - i)%4:Nat):Int):=by
      have:(j:Int) - (i:Int)+4=((j+4 - i:Nat):Int):=by omega
      rw[this];rfl
     rw[e1,ar (z:=(i:Int)) (i:=i) rfl (by rw[List.length_set,dQ];omega)]
     simp only[af]
     rw[ar (z:=(((j+4 - i)%4:Nat):Int)) (i:=(j+4 - i)%4) rfl (by simp;omega),ar (z:=(j:Int)) (i:=j) rfl (by omega)]
     simp only[af]
     rw[pv]
     simp only[af,Int.toNat_natCast]
     have e2:(List.set (part1 4 (fun i=>A i 4) (fun _=>0) i) i (A i j)).getD i 0=A i j:=by
      have:i<(part1 4 (fun i=>A i 4) (fun _=>(0:Int)) i).length:=by rw[dQ];omega
      simp[this]
     rw[e2,List.set_set,hAS];rfl
   · have h2:decide (((4:Nat):Int)<4)=false:=by decide
     simp only[h2,cond_false]
     rw[cS hi rfl]
   · rw[hA0]
     have:List.set (part1 4 (fun i=>A i 4) (fun _=>(0:Int)) i) i 0=part1 4 (fun i=>A i 4) (fun _=>0) i:=by
      apply List.ext_getElem
      · simp
      · intro k h1 h2
        rw[List.getElem_set]
        by_cases e:i=k
        · subst e;simp[part1]
        · rw[if_neg e]
     rw[this];rfl
 · rw[fb];rfl
theorem AN (v:Nat→Int) (hv:∀i,0≤v i∧v i≤255):∀i,i<4→acc coF v i 4=xorI .u8 (xorI .u8 (v i) (xorI .u8 (xorI .u8 (xorI .u8 (v 0) (v 1)) (v 2)) (v 3))) (tw (xorI .u8 (v i) (v ((i+1)%4)))):=by
 intro i hi
 have z:b8 0=0#8:=rfl
 have t:∀i j,tw (xorI .u8 (v i) (v j))=n8 (twB (b8 (v i))^^^twB (b8 (v j))):=fun i j=>by
  rw[tw_B (l5 _ _),xor8,uh,zW]
 match i,hi with
 |0,_=>
  have e:acc coF v 0 4=xorI .u8 (xorI .u8 (xorI .u8 (xorI .u8 0 (mul8 2 (v 0))) (mul8 3 (v 1))) (mul8 1 (v 2))) (mul8 1 (v 3)):=rfl
  rw[e,mul2 (hv 0),mul3 (hv 1),mul1 (hv 2),mul1 (hv 3),t,tw_B (hv 0),tw_B (hv 1)]
  simp only[xor8,uh,z,BitVec.zero_xor]
  simp[BitVec.xor_assoc,BitVec.xor_comm,qS,qT]
 |1,_=>
  have e:acc coF v 1 4=xorI .u8 (xorI .u8 (xorI .u8 (xorI .u8 0 (mul8 1 (v 0))) (mul8 2 (v 1))) (mul8 3 (v 2))) (mul8 1 (v 3)):=rfl
  rw[e,mul2 (hv 1),mul3 (hv 2),mul1 (hv 0),mul1 (hv 3),t,tw_B (hv 1),tw_B (hv 2)]
  simp only[xor8,uh,z,BitVec.zero_xor]
  simp[BitVec.xor_assoc,BitVec.xor_comm,qS,qT]
 |2,_=>
  have e:acc coF v 2 4=xorI .u8 (xorI .u8 (xorI .u8 (xorI .u8 0 (mul8 1 (v 0))) (mul8 1 (v 1))) (mul8 2 (v 2))) (mul8 3 (v 3)):=rfl
  rw[e,mul2 (hv 2),mul3 (hv 3),mul1 (hv 0),mul1 (hv 1),t,tw_B (hv 2),tw_B (hv 3)]
  simp only[xor8,uh,z,BitVec.zero_xor]
  simp[BitVec.xor_assoc,BitVec.xor_comm,qS,qT]
 |3,_=>
  have e:acc coF v 3 4=xorI .u8 (xorI .u8 (xorI .u8 (xorI .u8 0 (mul8 3 (v 0))) (mul8 1 (v 1))) (mul8 1 (v 2))) (mul8 2 (v 3)):=rfl
  rw[e,mul2 (hv 3),mul3 (hv 0),mul1 (hv 1),mul1 (hv 2),t,tw_B (hv 3),tw_B (hv 0)]
  simp only[xor8,uh,z,BitVec.zero_xor]
  simp[BitVec.xor_assoc,BitVec.xor_comm,qS,qT]
theorem oz {s:List Int} (hs:s.length=16) (hb:aS s):aZ s=some (mxL s):=by
 unfold aZ
 rw[aW (fun c=>(((4*c:Nat):Int),part1 16 (mxF s) (fun i=>s.getD i 0) (4*c))) 0 4 (r:=mxL s) (by omega) ?_ ?_ (by show(_,_)=(_,part1 _ _ _ 0);rw[kQ,lu hs];rfl)]
 · rfl
 · intro c _ hc
   have h1:decide (((4*c:Nat):Int)<16)=true:=by simp;omega
   simp only[h1,cond_true]
   rw[wrap64 (x:=((4*c:Nat):Int)+4) (by omega)]
   have g1:decide ((0:Int)≤((4*c:Nat):Int)∧(((4*c:Nat):Int))≤((4*c:Nat):Int)+4∧((4*c:Nat):Int)+4≤16)=true:=by simp;omega
   have g2:decide (0<4∧Int.toNat ((4*c:Nat):Int)+4≤Int.toNat (((4*c:Nat):Int)+4)∧Int.toNat (((4*c:Nat):Int)+4)≤16)=true:=by simp only[decide_eq_true_eq];omega
   have g3:decide ((0:Int)≤((4*c:Nat):Int)∧(((4*c:Nat):Int))≤16∧(16:Int)≤16)=true:=by simp only[decide_eq_true_eq];omega
   have g4:decide (Int.toNat ((4*c:Nat):Int)≤Int.toNat 16∧Int.toNat 16≤16)=true:=by simp only[decide_eq_true_eq];omega
   simp only[g1,g2,g3,g4,cond_true]
   rw[Int.toNat_natCast,tt (by simp[part1];omega)]
   simp only[af]
   have e16:Int.toNat 16=16:=rfl
   have e4:((4*c:Nat):Int)+4=((4*(c+1):Nat):Int):=by omega
   rw[e16,e4]
   congr 3
   apply jz
   · rw[lG (by omega) (by rw[dQ];omega),dQ,dQ]
   · intro j hj
     rw[lG (by omega) (by rw[dQ];omega),dQ] at hj
     have hcol:∀k,k<4→(List.take 4 (List.drop (4*c) (part1 16 (mxF s) (fun i=>s.getD i 0) (4*c)))).getD k 0=s.getD (4*c+k) 0:=by
       intro k hk
       have h3:4*c+k<16:=by omega
       have h4:¬4*c+k<4*c:=by omega
       simp[part1,h4,hk,h3,List.getElem?_take,List.getElem?_drop]
     have hov:(over (part1 16 (mxF s) (fun i=>s.getD i 0) (4*c)) (4*c) 16 ((List.range 4).map fun i=>acc coF (fun j=>(List.take 4 (List.drop (4*c) (part1 16 (mxF s) (fun i=>s.getD i 0) (4*c)))).getD j 0) i 4)).getD j 0=bif decide (4*c≤j∧j<4*c+4) then acc coF (fun j=>(List.take 4 (List.drop (4*c) (part1 16 (mxF s) (fun i=>s.getD i 0) (4*c)))).getD j 0) (j - 4*c) 4 else(part1 16 (mxF s) (fun i=>s.getD i 0) (4*c)).getD j 0:=by
       unfold over
       rw[List.getD_eq_getElem?_getD,List.getD_eq_getElem?_getD,List.getElem?_append,List.getElem?_append]
       simp only[List.length_append,List.length_take,dQ,List.length_map,List.length_range]
       have m1:min (4*c) 16=4*c:=by omega
       have m2:min (16 - 4*c) 4=4:=by omega
       have m3:min 4 (16 - 4*c)=4:=by omega
       rw[m1,m2,m3]
       by_cases j1:j<4*c
       · have d:decide (4*c≤j∧j<4*c+4)=false:=by simp;omega
         rw[if_pos (by omega),if_pos j1,d];simp[List.getElem?_take,j1]
       · by_cases j2:j<4*c+4
         · have d:decide (4*c≤j∧j<4*c+4)=true:=by simp;omega
           have j3:j - 4*c<4:=by omega
           have j4:j - 4*c<16 - 4*c:=by omega
           rw[if_pos j2,if_neg j1,d];simp[List.getElem?_take,j3,j4]
         · have d:decide (4*c≤j∧j<4*c+4)=false:=by simp;omega
           have:4*c+4+(j - (4*c+4))=j:=by omega
           rw[if_neg j2,d];simp[List.getElem?_drop,this]
     rw[hov]
     by_cases h:4*c≤j∧j<4*c+4
     · have d:decide (4*c≤j∧j<4*c+4)=true:=by simp[h]
       rw[d,cond_true]
       have hacc:∀(v w:Nat→Int) (i n:Nat),n≤4→(∀k,k<4→v k=w k)→acc coF v i n=acc coF w i n:=by
         intro v w i n hn hvw
         induction n with
         |zero=>rfl
         |succ n ih=>unfold acc;rw[ih (by omega),hvw n (by omega)]
       rw[hacc _ (fun k=>s.getD (4*c+k) 0) _ 4 (Nat.le_refl _) hcol]
       rw[AN _ (fun i=>fP hb _) _ (by omega)]
       have q1:j / 4*4=4*c:=by omega
       have q2:j%4=j - 4*c:=by omega
       have q3:4*c+(j - 4*c)=j:=by omega
       have hr:(part1 16 (mxF s) (fun i=>s.getD i 0) (4*(c+1))).getD j 0=mxF s j:=by
         have:j<4*(c+1):=by omega
         simp[part1,hj,this]
       rw[hr]
       unfold mxF
       rw[q1,q2,q3,Nat.add_zero]
     · have d:decide (4*c≤j∧j<4*c+4)=false:=by simp only[decide_eq_false_iff_not];exact h
       rw[d,cond_false]
       have:decide (j<4*c)=decide (j<4*(c+1)):=by rw[Bool.eq_iff_iff];simp only[decide_eq_true_eq];omega
       simp only[part1,hj,List.getD_eq_getElem?_getD,List.getElem?_map,List.getElem?_range,Option.map_some,Option.getD_some,this]
 · have h2:decide (((4*4:Nat):Int)<16)=false:=by decide
   simp only[h2,cond_false]
   rw[show 4*4=16 from rfl,fb];rfl
end Go.Proofs.YtobbmodjdkcdcaaGreatDoor
