import Derived.Test.YtobbmodjdkcdcaaGreatDoorLawHash3
set_option linter.unusedVariables false
set_option linter.unusedSimpArgs false
set_option maxRecDepth 20000
namespace Go.Proofs.YtobbmodjdkcdcaaGreatDoor
open Go Go.Sim
set_option linter.unusedSectionVars false
variable [Fu]
theorem jn {α:Type} {xs:List α} {l h:Int} {i j:Nat} (hl:l=i) (hh:h=j) (h1:i≤j) (h2:j≤xs.length):sub xs l h=some ((xs.take j).drop i):=by
 subst hl hh
 unfold sub
 have e:(decide (0≤(i:Int))&&decide ((i:Int)≤(j:Int))&&decide ((j:Int)≤(xs.length:Int)))=true:=by simp;omega
 rw[e];rfl
theorem jy {α:Type} {xs:List α} {h:Int} {j:Nat} (hh:h=j) (h2:j≤xs.length):sub xs 0 h=some (xs.take j):=by
 rw[jn (l:=0) (i:=0) rfl hh (by omega) h2];rfl
def part1 {α:Type} (n:Nat) (f g:Nat→α) (i:Nat):List α:=(List.range n).map fun j=>bif decide (j<i) then f j else g j
theorem dQ {α:Type} {n:Nat} {f g:Nat→α} {i:Nat}:(part1 n f g i).length=n:=by simp[part1]
theorem cS {α:Type} {n:Nat} {f g:Nat→α} {i:Nat} (h:i<n) {v:α} (hv:v=f i):List.set (part1 n f g i) i v=part1 n f g (i+1):=by
 subst hv
 apply List.ext_getElem
 · simp[part1]
 · intro k h1 h2
   simp only[part1,List.getElem_set,List.getElem_map,List.getElem_range]
   by_cases hk:i=k
   · subst hk;simp
   · rw[if_neg hk]
     by_cases h3:k<i
     · simp[h3,show k<i+1 by omega]
     · simp[h3,show¬k<i+1 by omega]
theorem kQ {α:Type} {n:Nat} {f g:Nat→α}:part1 n f g 0=(List.range n).map g:=by simp[part1]
theorem fb {α:Type} {n:Nat} {f g:Nat→α}:part1 n f g n=(List.range n).map f:=by
 unfold part1
 apply List.map_congr_left
 intro j hj;simp[List.mem_range.1 hj]
theorem dk {n:Nat} {f g:Nat→Int} {i k:Nat} {z:Int} (hz:z=k) (h:k<n):idx (part1 n f g i) z=some (bif decide (k<i) then f k else g k):=by
 rw[ar hz (by rw[dQ];exact h)]
 simp[part1,h]
def keyB (key:List Int):List Int:=bif decide ((key.length:Int)>64) then digest key else key
theorem yW (key:List Int):(keyB key).length≤64:=by
 unfold keyB
 cases h:decide ((key.length:Int)>64) with
 |true=>simp only[cond_true];rw[lZ];omega
 |false=>simp only[cond_false];simp at h;omega
def mm (key:List Int) (m:Int):List Int:=(List.range 64).map fun j=>xorI .u8 ((keyB key).getD j 0) m
theorem lA (key:List Int) (m:Int):(mm key m).length=64:=by simp[mm]
theorem yX {k:List Int} (h:k.length≤64):over (List.replicate 64 (0:Int)) (Int.toNat 0) (Int.toNat 64) k=(List.range 64).map fun j=>k.getD j 0:=by
 have t0:Int.toNat 0=0:=rfl
 have t64:Int.toNat 64=64:=rfl
 rw[t0,t64,kP (by omega) (by simp)]
 have:k.take 64=k:=List.take_of_length_le h
 simp only[List.take_zero,List.nil_append,Nat.sub_zero,this,List.drop_replicate,Nat.zero_add]
 apply List.ext_getElem
 · simp;omega
 · intro i h1 h2
   rw[List.getElem_append]
   by_cases hi:i<k.length
   · simp[hi]
   · simp[hi]
theorem rb {key:List Int} {m:Int} (hb:key.length<2^59):∃h,gT key m=some h∧HR0 h (mm key m):=by
 unfold gT
 have e1:(bif decide ((key.length:Int)>64) then(i9 key).bind fun y83=>some y83 else some key:Option (List Int))=some (keyB key):=by
   unfold keyB
   cases h:decide ((key.length:Int)>64) with
   |true=>simp only[cond_true];rw[yV hb];rfl
   |false=>rfl
 rw[e1]
 simp only[af]
 rw[yX (yW key)]
 have e2:decide ((Int.toNat 0)≤(Int.toNat 64)∧(Int.toNat 64)≤64)=true:=by decide
 rw[e2,cond_true]
 rw[aW (fun i=>((i:Int),part1 64 (fun j=>xorI .u8 ((keyB key).getD j 0) m) (fun j=>(keyB key).getD j 0) i)) 0 64 (r:=mm key m) (by omega) ?_ ?_ (by rw[kQ];rfl)]
 rotate_left
 · intro i _ hi
   have h1:decide ((i:Int)<64)=true:=by simp;omega
   simp only[h1,cond_true]
   rw[dk rfl hi]
   simp only[af,Nat.lt_irrefl,decide_false,cond_false]
   rw[wrap64 (by omega),Int.toNat_natCast,cS hi rfl];rfl
 · rw[fb];rfl
 simp only[af]
 obtain⟨h,e,r⟩:=yU
 rw[e]
 simp only[af]
 obtain⟨h',e',r'⟩:=mQ r (a:=mm key m) (by rw[lA];simp)
 rw[e']
 exact⟨h',rfl,by simpa using r'.zero⟩
def tagS (key msg:List Int):List Int:=digest (mm key 92++digest (mm key 54++msg))
theorem iS (key msg:List Int):(tagS key msg).length=32:=lZ _
theorem re (key msg:List Int):aS (tagS key msg):=tM _
theorem tQ {key msg:List Int} (hk:key.length<2^30) (hm:msg.length<2^30):ja key msg=some (tagS key msg):=by
 unfold ja
 obtain⟨h,e,r⟩:=rb (key:=key) (m:=54) (by omega)
 obtain⟨g,e2,r2⟩:=rb (key:=key) (m:=92) (by omega)
 have l1:=lA key 54
 have l2:=lA key 92
 rw[e,e2]
 simp only[af]
 obtain⟨h',e',r'⟩:=mQ r (a:=msg) (by omega)
 rw[e']
 simp only[af]
 rw[mS r'.zero (by rw[List.length_append];omega)]
 simp only[af]
 have l3:=lZ (mm key 54++msg)
 obtain⟨g',e3,r3⟩:=mQ r2 (a:=digest (mm key 54++msg)) (by omega)
 rw[e3]
 simp only[af]
 rw[mS r3.zero (by rw[List.length_append];omega)];rfl
theorem rh {key:List Int} {m:Int} (hb:key.length<2^31):cR key m=some (mm key m):=by
 unfold cR
 have e1:(bif decide ((key.length:Int)>64) then(de key).bind fun y83=>some y83 else some key:Option (List Int))=some (keyB key):=by
   unfold keyB
   cases h:decide ((key.length:Int)>64) with
   |true=>simp only[cond_true];rw[tO hb];rfl
   |false=>rfl
 rw[e1]
 simp only[af]
 rw[aW (fun i=>((List.range i).map (fun j=>xorI .u8 ((keyB key).getD j 0) m),(i:Int))) 0 64 (r:=mm key m) (by omega) ?_ (ef rfl) (by rfl)]
 · rfl
 · intro i _ hi
   have h1:decide ((i:Int)<64)=true:=by simp;omega
   simp only[h1,cond_true]
   have e2:(bif decide ((i:Int)<((keyB key).length:Int)) then(idx (keyB key) (i:Int)).bind fun x150=>some x150 else some 0:Option Int)=some ((keyB key).getD i 0):=by
    by_cases h:i<(keyB key).length
    · rw[ar rfl h]
      have:(i:Int)<((keyB key).length:Int):=by omega
      simp[this]
    · have:¬(i:Int)<((keyB key).length:Int):=by omega
      simp only[this,decide_false,cond_false]
      simp[h]
   rw[e2]
   simp only[af]
   rw[bK (by simp[room];omega)]
   simp only[af]
   rw[wrap64 (by omega),List.range_succ,List.map_append];rfl
theorem tS {key msg:List Int} (hk:key.length<2^30) (hm:msg.length<2^30):dN key msg=some (tagS key msg):=by
 unfold dN
 have hroom:room=17179869184:=rfl
 have l1:=lA key 54
 have l2:=lA key 92
 have l3:=lZ (mm key 54++msg)
 rw[rh (by omega),rh (by omega)]
 simp only[af]
 rw[bK (by omega)]
 simp only[af]
 rw[tO (by rw[List.length_append];omega)]
 simp only[af]
 rw[bK (by omega)]
 simp only[af]
 rw[tO (by rw[List.length_append];omega)];rfl
theorem l5 (x y:Int):0≤xorI .u8 x y∧xorI .u8 x y≤255:=kL _
theorem uR (x y:Int):xorI .u8 x y=((BitVec.ofInt 8 x^^^BitVec.ofInt 8 y).toNat:Int):=by
 have h:xorI .u8 x y=IntKind.u8.wrap ((BitVec.ofInt 8 x^^^BitVec.ofInt 8 y).toNat:Int):=rfl
 rw[h]
 exact un (by have:=(BitVec.ofInt 8 x^^^BitVec.ofInt 8 y).isLt;omega)
theorem fP {a:List Int} (h:aS a) (i:Nat):0≤a.getD i 0∧a.getD i 0≤255:=by
 by_cases hi:i<a.length
 · have:=h _ (List.getElem_mem hi);simp[hi];exact this
 · simp[hi]
theorem jz {a b:List Int} (hl:a.length=b.length) (h:∀j,j<a.length→a.getD j 0=b.getD j 0):a=b:=by
 apply List.ext_getElem hl
 intro i h1 h2
 have:=h i h1
 simpa[h1,h2] using this
def exT (key info:List Int):Nat→List Int
 |0=>[]
 |i+1=>tagS key (exT key info i++info++[IntKind.wrap .u8 ((i+1:Nat):Int)])
theorem w4 (key info:List Int):∀i,(exT key info i).length≤32
 |0=>by simp[exT]
 |i+1=>by unfold exT;rw[iS];omega
def exO (key info:List Int):Nat→List Int
 |0=>[]
 |i+1=>exO key info i++exT key info (i+1)
theorem qx (key info:List Int):∀i,(exO key info i).length=32*i
 |0=>rfl
 |i+1=>by unfold exO exT;rw[List.length_append,qx,iS];omega
theorem sG (key info:List Int):∀i,aS (exO key info i)
 |0=>fun b h=>by cases h
 |i+1=>fun b h=>by
  unfold exO at h
  rcases List.mem_append.1 h with h|h
  · exact sG key info i b h
  · unfold exT at h;exact re _ _ b h
def exS (key info:List Int) (n:Nat):List Int:=(exO key info ((n+31) / 32)).take n
theorem Ah (key info:List Int) (n:Nat):(exS key info n).length=n:=by
 unfold exS;rw[List.length_take,qx];omega
theorem xR (key info:List Int) (n:Nat):aS (exS key info n):=fun b h=>sG _ _ _ b (List.mem_of_mem_take h)
theorem we {key info:List Int} {n:Nat} (hn:n≤8160) (hk:key.length<2^30) (hi:info.length<2^29):iK key info n=some (exS key info n,0):=by
 unfold iK
 have hroom:room=17179869184:=rfl
 have hroomI:(room:Int)=17179869184:=rfl
 have e1:decide ((n:Int)<0)=false:=decide_eq_false (by omega)
 have e2:decide ((n:Int)>8160)=false:=by simp;omega
 have e3:mkB 0 (IntKind.wrap .i64 ((n:Int)+32))=true:=by
   rw[wrap64 (by omega)];unfold mkB;simp[hroomI];omega
 rw[e1,e2,e3]
 simp only[cond_true,cond_false]
 obtain⟨T,hT⟩:∃T,T=exT key info:=⟨_,rfl⟩
 obtain⟨O,hO⟩:∃O,O=exO key info:=⟨_,rfl⟩
 have hT0:T 0=[]:=by rw[hT];rfl
 have hO0:O 0=[]:=by rw[hO];rfl
 have hTS:∀i,T (i+1)=tagS key (T i++info++[IntKind.wrap .u8 ((i+1:Nat):Int)]):=by rw[hT];intro i;rfl
 have hOS:∀i,O (i+1)=O i++T (i+1):=by rw[hT,hO];intro i;rfl
 have hTl:∀i,(T i).length≤32:=by rw[hT];exact w4 key info
 have hOl:∀i,(O i).length=32*i:=by rw[hO];exact qx key info
 rw[aW (fun i=>(O i,T i,((i+1:Nat):Int))) 0 ((n+31) / 32) (r:=O ((n+31) / 32)) (by omega) ?_ (ef (by rw[hOl];simp;omega)) (by rw[hT0,hO0];rfl)]
 rotate_left
 · intro i _ hi2
   have h1:decide (((O i).length:Int)<(n:Int))=true:=by rw[hOl];simp;omega
   have hl:=hTl i
   have ho:=hOl i
   have h2:mkB 0 (IntKind.wrap .i64 ((IntKind.wrap .i64 (((T i).length:Int)+(info.length:Int)))+1))=true:=by
    rw[wrap64 (x:=((T i).length:Int)+(info.length:Int)) (by omega),wrap64 (by omega)];unfold mkB;simp[hroomI];omega
   simp only[h1,h2,cond_true]
   have e0:List.replicate (Int.toNat 0) (0:Int)=[]:=rfl
   rw[e0,bK (by rw[hroom];simp;omega)]
   simp only[af,List.nil_append]
   rw[bK (by omega)]
   simp only[af]
   rw[bK (by rw[hroom];simp;omega)]
   simp only[af]
   rw[tQ hk (by simp;omega)]
   simp only[af]
   rw[←hTS,bK (by rw[hTS,iS];omega)]
   simp only[af]
   rw[wrap64 (by omega),←hOS];rfl
 simp only[af]
 rw[jy rfl (by rw[hOl];omega)]
 simp only[af]
 rw[hO];rfl
theorem wg {key info:List Int} {n:Nat} (hn:n≤8160) (hk:key.length<2^30) (hi:info.length<2^29):eu key info n=some (exS key info n,0):=by
 unfold eu
 have hroom:room=17179869184:=rfl
 have e1:decide ((n:Int)<0)=false:=decide_eq_false (by omega)
 have e2:decide ((n:Int)>8160)=false:=by simp;omega
 rw[e1,e2]
 simp only[cond_false]
 obtain⟨T,hT⟩:∃T,T=exT key info:=⟨_,rfl⟩
 obtain⟨O,hO⟩:∃O,O=exO key info:=⟨_,rfl⟩
 have hT0:T 0=[]:=by rw[hT];rfl
 have hO0:O 0=[]:=by rw[hO];rfl
 have hTS:∀i,T (i+1)=tagS key (T i++info++[IntKind.wrap .u8 ((i+1:Nat):Int)]):=by rw[hT];intro i;rfl
 have hOS:∀i,O (i+1)=O i++T (i+1):=by rw[hT,hO];intro i;rfl
 have hTl:∀i,(T i).length≤32:=by rw[hT];exact w4 key info
 have hOl:∀i,(O i).length=32*i:=by rw[hO];exact qx key info
 rw[aW (fun i=>(O i,T i,((i+1:Nat):Int))) 0 ((n+31) / 32) (r:=O ((n+31) / 32)) (by omega) ?_ (ef (by rw[hOl];simp;omega)) (by rw[hT0,hO0];rfl)]
 rotate_left
 · intro i _ hi2
   have h1:decide (((O i).length:Int)<(n:Int))=true:=by rw[hOl];simp;omega
   have hl:=hTl i
   have ho:=hOl i
   simp only[h1,cond_true]
   rw[bK (by rw[hroom];simp;omega)]
   simp only[af,List.nil_append]
   rw[bK (by omega)]
   simp only[af]
   rw[bK (by rw[hroom];simp;omega)]
   simp only[af]
   rw[tS hk (by simp;omega)]
   simp only[af]
   rw[←hTS,bK (by rw[hTS,iS];omega)]
   simp only[af]
   rw[wrap64 (by omega),←hOS];rfl
 simp only[af]
 rw[jy rfl (by rw[hOl];omega)]
 simp only[af]
 have e3:decide ((n:Int)≤(n:Int)∧(n:Int)≤((O ((n+31) / 32)).length:Int))=true:=by rw[hOl];simp;omega
 rw[e3,hO];rfl
def derS (secret salt info:List Int) (n:Nat):List Int:=exS (tagS salt secret) info n
theorem nS {secret salt info:List Int} {z:Int} {n:Nat} (hz:z=n) (hn:n≤8160) (h1:secret.length<2^30) (h2:salt.length<2^30) (h3:info.length<2^29):f7 secret salt info z=some (derS secret salt info n,0):=by
 subst hz
 unfold f7 jl
 rw[tQ h2 h1]
 simp only[af]
 rw[we hn (by rw[iS];omega) h3];rfl
theorem nT {secret salt info:List Int} {z:Int} {n:Nat} (hz:z=n) (hn:n≤8160) (h1:secret.length<2^30) (h2:salt.length<2^30) (h3:info.length<2^29):cT secret salt info z=some (derS secret salt info n,0):=by
 subst hz
 unfold cT fk
 rw[tS h2 h1]
 simp only[af]
 rw[wg hn (by rw[iS];omega) h3];rfl
end Go.Proofs.YtobbmodjdkcdcaaGreatDoor
