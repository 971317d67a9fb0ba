import Derived.Test.YtobbmodjdkcdcaaGreatDoorLawHash
set_option linter.all false
set_option maxRecDepth 20000
namespace Go.Proofs.YtobbmodjdkcdcaaGreatDoor
open Go Go.Sim
variable [Fu]
theorem je {α:Type} {xs:List α} {l h:Int} {i j:Nat} (hl:l=i) (hh:h=j) (h1:i≤j) (h2:j≤xs.length):sub xs l h=some ((xs.take j).drop i):=by subst hl hh;unfold sub;(have e:(decide (0≤(i:Int))&&decide ((i:Int)≤(j:Int))&&decide ((j:Int)≤(xs.length:Int)))=true:=by simp;omega);rw[e];rfl
theorem ju {α:Type} {xs:List α} {h:Int} {j:Nat} (hh:h=j) (h2:j≤xs.length):sub xs 0 h=some (xs.take j):=by rw[je (l:=0) (i:=0) rfl hh (by omega) h2];rfl
def part1 {α:Type} (n:Nat) (f g:Nat→α) (i:Nat):List α:=(List.range n).map λj=>bif decide (j<i) then f j else g j
theorem eY {α:Type} {n:Nat} {f g:Nat→α} {i:Nat}:(part1 n f g i).length=n:=by simp[part1]
theorem cV {α:Type} {n:Nat} {f g:Nat→α} {i:Nat} (h:i<n) {v:α} (hv:v=f i):List.set (part1 n f g i) i v=part1 n f g (i+1):=by subst hv;apply List.ext_getElem;simp[part1];intro k h1 h2;simp only[part1,List.getElem_set,List.getElem_map,List.getElem_range];by_cases hk:i=k;subst hk;simp;rw[if_neg hk];by_cases h3:k<i;simp[h3,show k<i+1 by omega];simp[h3,show¬k<i+1 by omega]
theorem nS {α:Type} {n:Nat} {f g:Nat→α}:part1 n f g 0=(List.range n).map g:=by simp[part1]
theorem fy {α:Type} {n:Nat} {f g:Nat→α}:part1 n f g n=(List.range n).map f:=by unfold part1;apply List.map_congr_left;intro j hj;simp[List.mem_range.1 hj]
theorem dn {n:Nat} {f g:Nat→Int} {i k:Nat} {z:Int} (hz:z=k) (h:k<n):idx (part1 n f g i) z=some (bif decide (k<i) then f k else g k):=by rw[ar hz (by rw[eY];exact h)];simp[part1,h]
def keyB (key:List Int):List Int:=bif decide ((key.length:Int)>64) then digest key else key
theorem DM (key:List Int):(keyB key).length≤64:=by unfold keyB;cases h:decide ((key.length:Int)>64) with|true=>simp only[cond_true];rw[nR];omega|false=>simp only[cond_false];simp at h;omega
def oO (key:List Int) (m:Int):List Int:=(List.range 64).map λj=>xorI .u8 ((keyB key).getD j 0) m
theorem ne (key:List Int) (m:Int):(oO key m).length=64:=by simp[oO]
theorem DN {k:List Int} (h:k.length≤64):over (List.replicate 64 (0:Int)) (Int.toNat 0) (Int.toNat 64) k=(List.range 64).map λj=>k.getD j 0:=by have t0:Int.toNat 0=0:=rfl;have t64:Int.toNat 64=64:=rfl;rw[t0,t64,qa (by omega) (by simp)];have:k.take 64=k:=List.take_of_length_le h;simp only[List.take_zero,List.nil_append,Nat.sub_zero,this,List.drop_replicate,Nat.zero_add];apply List.ext_getElem;simp;omega;intro i h1 h2;rw[List.getElem_append];by_cases hi:i<k.length;simp[hi];simp[hi]
theorem uK {key:List Int} {m:Int} (hb:key.length<2^59):∃h,ji key m=some h∧HR0 h (oO key m):=by
 unfold ji
 have e1:(bif decide ((key.length:Int)>64) then(kU key).bind λy83=>some y83 else some key:Option (List Int))=some (keyB key):=by
   unfold keyB
   cases h:decide ((key.length:Int)>64) with
   |true=>simp only[cond_true];rw[DL hb];rfl
   |false=>rfl
 rw[e1]
 simp only[ab]
 rw[DN (DM key)]
 have e2:decide ((Int.toNat 0)≤(Int.toNat 64)∧(Int.toNat 64)≤64)=true:=by decide
 rw[e2,cond_true]
 rw[aP (λi=>((i:Int),part1 64 (λj=>xorI .u8 ((keyB key).getD j 0) m) (λj=>(keyB key).getD j 0) i)) 0 64 (r:=oO key m) (by omega) ?_ ?_ (by rw[nS];rfl)]
 rotate_left
 · intro i _ hi
   have h1:decide ((i:Int)<64)=true:=by simp;omega
   simp only[h1,cond_true]
   rw[dn rfl hi]
   simp only[ab,Nat.lt_irrefl,decide_false,cond_false]
   rw[wrap64 (by omega),Int.toNat_natCast,cV hi rfl];rfl
 · rw[fy];rfl
 simp only[ab]
 obtain⟨h,e,r⟩:=DK
 rw[e]
 simp only[ab]
 obtain⟨h',e',r'⟩:=pi r (a:=oO key m) (by rw[ne];simp)
 rw[e']
 exact⟨h',rfl,by simpa using r'.zero⟩
def tagS (key msg:List Int):List Int:=digest (oO key 92++digest (oO key 54++msg))
theorem jv (key msg:List Int):(tagS key msg).length=32:=nR _
theorem uL (key msg:List Int):aH (tagS key msg):=yd _
theorem tU {key msg:List Int} (hk:key.length<2^30) (hm:msg.length<2^30):jY key msg=some (tagS key msg):=by unfold jY;obtain⟨h,e,r⟩:=uK (key:=key) (m:=54) (by omega);obtain⟨g,e2,r2⟩:=uK (key:=key) (m:=92) (by omega);have l1:=ne key 54;have l2:=ne key 92;rw[e,e2];simp only[ab];obtain⟨h',e',r'⟩:=pi r (a:=msg) (by omega);rw[e'];simp only[ab];rw[pm r'.zero (by rw[List.length_append];omega)];simp only[ab];have l3:=nR (oO key 54++msg);obtain⟨g',e3,r3⟩:=pi r2 (a:=digest (oO key 54++msg)) (by omega);rw[e3];simp only[ab];rw[pm r3.zero (by rw[List.length_append];omega)];rfl
theorem uM {key:List Int} {m:Int} (hb:key.length<2^31):dg key m=some (oO key m):=by unfold dg;(have e1:(bif decide ((key.length:Int)>64) then(dP key).bind λy83=>some y83 else some key:Option (List Int))=some (keyB key):=by unfold keyB;cases h:decide ((key.length:Int)>64) with|true=>simp only[cond_true];rw[ye hb];rfl|false=>rfl);rw[e1];simp only[ab];rw[aP (λi=>((List.range i).map (λj=>xorI .u8 ((keyB key).getD j 0) m),(i:Int))) 0 64 (r:=oO key m) (by omega) ?_ (cX rfl) (by rfl)];rfl;intro i _ hi;(have h1:decide ((i:Int)<64)=true:=by simp;omega);simp only[h1,cond_true];(have e2:(bif decide ((i:Int)<((keyB key).length:Int)) then(idx (keyB key) (i:Int)).bind λx150=>some x150 else some 0:Option Int)=some ((keyB key).getD i 0):=by by_cases h:i<(keyB key).length;rw[ar rfl h];(have:(i:Int)<((keyB key).length:Int):=by omega);simp[this];(have:¬(i:Int)<((keyB key).length:Int):=by omega);simp only[this,decide_false,cond_false];simp[h]);rw[e2];simp only[ab];rw[aR (by simp[room];omega)];simp only[ab];rw[wrap64 (by omega),List.range_succ,List.map_append];rfl
theorem yf {key msg:List Int} (hk:key.length<2^30) (hm:msg.length<2^30):eN key msg=some (tagS key msg):=by unfold eN;have hroom:room=17179869184:=rfl;have l1:=ne key 54;have l2:=ne key 92;have l3:=nR (oO key 54++msg);rw[uM (by omega),uM (by omega)];simp only[ab];rw[aR (by omega)];simp only[ab];rw[ye (by rw[List.length_append];omega)];simp only[ab];rw[aR (by omega)];simp only[ab];rw[ye (by rw[List.length_append];omega)];rfl
theorem DO {x y:Int} (hx:0≤x∧x≤255) (hy:0≤y∧y≤255):orI .u8 x y=0↔x=0∧y=0:=by have key:∀a b:BitVec 8,(a|||b=0#8)↔a=0#8∧b=0#8:=λa b=>BitVec.or_eq_zero_iff;(have e:orI .u8 x y=((BitVec.ofInt 8 x|||BitVec.ofInt 8 y).toNat:Int):=by have h:orI .u8 x y=IntKind.u8.wrap ((BitVec.ofInt 8 x|||BitVec.ofInt 8 y).toNat:Int):=rfl;rw[h];exact uo (by have:=(BitVec.ofInt 8 x|||BitVec.ofInt 8 y).isLt;omega));(have z:∀a:BitVec 8,(a.toNat:Int)=0↔a=0#8:=λa=>by constructor;intro h;apply BitVec.eq_of_toNat_eq;simpa using h;rintro rfl;rfl);(have w:∀a:Int,0≤a∧a≤255→(BitVec.ofInt 8 a=0#8↔a=0):=λa ha=>by constructor;intro h;have:=congrArg BitVec.toNat h;simp only[BitVec.toNat_ofInt] at this;simp at this;omega;rintro rfl;rfl);rw[e,z,key,w x hx,w y hy]
theorem CI (x y:Int):0≤orI .u8 x y∧orI .u8 x y≤255:=lu _
theorem mf (x y:Int):0≤xorI .u8 x y∧xorI .u8 x y≤255:=lu _
theorem uN (x y:Int):xorI .u8 x y=((BitVec.ofInt 8 x^^^BitVec.ofInt 8 y).toNat:Int):=by have h:xorI .u8 x y=IntKind.u8.wrap ((BitVec.ofInt 8 x^^^BitVec.ofInt 8 y).toNat:Int):=rfl;rw[h];exact uo (by have:=(BitVec.ofInt 8 x^^^BitVec.ofInt 8 y).isLt;omega)
theorem EZ {x y:Int} (hx:0≤x∧x≤255) (hy:0≤y∧y≤255) (h:BitVec.ofInt 8 x=BitVec.ofInt 8 y):x=y:=by have:=congrArg BitVec.toNat h;simp only[BitVec.toNat_ofInt] at this;simp at this;omega
theorem CJ {x y:Int} (hx:0≤x∧x≤255) (hy:0≤y∧y≤255):xorI .u8 x y=0↔x=y:=by rw[uN];constructor;intro h;apply EZ hx hy;(have h2:BitVec.ofInt 8 x^^^BitVec.ofInt 8 y=0#8:=by apply BitVec.eq_of_toNat_eq;simpa using h);have key:∀a b:BitVec 8,a^^^b=0#8→a=b:=λa b h=>BitVec.xor_eq_zero_iff.1 h;exact key _ _ h2;rintro rfl;simp
def offL (a b:List Int):Nat→Int|0=>0|i+1=>orI .u8 (offL a b i) (xorI .u8 (a.getD i 0) (b.getD i 0))
theorem Bf (a b:List Int):∀i,0≤offL a b i∧offL a b i≤255|0=>by simp[offL]|i+1=>CI _ _
theorem fo {a:List Int} (h:aH a) (i:Nat):0≤a.getD i 0∧a.getD i 0≤255:=by by_cases hi:i<a.length;have:=h _ (List.getElem_mem hi);simp[hi];exact this;simp[hi]
theorem w7 {a b:List Int} (ha:aH a) (hb:aH b):∀i,offL a b i=0↔∀j,j<i→a.getD j 0=b.getD j 0|0=>by simp[offL]|i+1=>by unfold offL;rw[DO (Bf a b i) (mf _ _),w7 ha hb i,CJ (fo ha i) (fo hb i)];constructor;rintro⟨h1,h2⟩ j hj;by_cases e:j=i;subst e;exact h2;exact h1 j (by omega);intro h;exact⟨λj hj=>h j (by omega),h i (by omega)⟩
theorem iL {a b:List Int} (hl:a.length=b.length) (h:∀j,j<a.length→a.getD j 0=b.getD j 0):a=b:=by apply List.ext_getElem hl;intro i h1 h2;have:=h i h1;simpa[h1,h2] using this
theorem CK {a b:List Int} (ha:aH a) (hb:aH b) (hl:a.length<2^30):lD a b=some (a==b):=by
 unfold lD
 by_cases h:a.length=b.length
 · have e:((a.length:Int) != (b.length:Int))=false:=by rw[h];simp
   rw[e,cond_false]
   rw[aP (λi=>(offL a b i,(i:Int))) 0 a.length (r:=offL a b a.length) (by omega) ?_ (cX (by show decide _=false;simp)) (by rfl)]
   rotate_left
   · intro i _ hi
     have h1:decide ((i:Int)<(a.length:Int))=true:=by simp;omega
     simp only[h1,cond_true]
     rw[ar rfl hi,ar rfl (by omega)]
     simp only[ab]
     rw[wrap64 (by omega)];rfl
   simp only[ab]
   congr 1
   have:=w7 ha hb a.length
   by_cases e2:a=b
   · subst e2
     rw[this.2 λ_ _=>rfl];simp
   · have:¬offL a b a.length=0:=λh0=>e2 (iL h (this.1 h0))
     rw[beq_false_of_ne this,beq_false_of_ne e2]
 · have e:((a.length:Int) != (b.length:Int))=true:=by simp;omega
   rw[e,cond_true]
   have:a≠b:=λe=>h (by rw[e])
   rw[beq_false_of_ne this]
def exT (key info:List Int):Nat→List Int|0=>[]|i+1=>tagS key (exT key info i++info++[IntKind.wrap .u8 ((i+1:Nat):Int)])
theorem BV (key info:List Int):∀i,(exT key info i).length≤32|0=>by simp[exT]|i+1=>by unfold exT;rw[jv];omega
def exO (key info:List Int):Nat→List Int|0=>[]|i+1=>exO key info i++exT key info (i+1)
theorem tW (key info:List Int):∀i,(exO key info i).length=32*i|0=>rfl|i+1=>by unfold exO exT;rw[List.length_append,tW,jv];omega
theorem w8 (key info:List Int):∀i,aH (exO key info i)|0=>λb h=>by cases h|i+1=>λb h=>by unfold exO at h;rcases List.mem_append.1 h with h|h;exact w8 key info i b h;unfold exT at h;exact uL _ _ b h
def exS (key info:List Int) (n:Nat):List Int:=(exO key info ((n+31) / 32)).take n
theorem E2 (key info:List Int) (n:Nat):(exS key info n).length=n:=by unfold exS;rw[List.length_take,tW];omega
theorem CL (key info:List Int) (n:Nat):aH (exS key info n):=λb h=>w8 _ _ _ b (List.mem_of_mem_take h)
theorem Bg {key info:List Int} {n:Nat} (hn:n≤8160) (hk:key.length<2^30) (hi:info.length<2^29):ki key info n=some (exS key info n,0):=by
 unfold ki
 have hroom:room=17179869184:=rfl
 have hroomI:(room:Int)=17179869184:=rfl
 have e1:decide ((n:Int)<0)=false:=decide_eq_false (by omega)
 have e2:decide ((n:Int)>8160)=false:=by simp;omega
 have e3:mkB 0 (IntKind.wrap .i64 ((n:Int)+32))=true:=by
   rw[wrap64 (by omega)];unfold mkB;simp[hroomI];omega
 rw[e1,e2,e3]
 simp only[cond_true,cond_false]
 obtain⟨T,hT⟩:∃T,T=exT key info:=⟨_,rfl⟩
 obtain⟨O,hO⟩:∃O,O=exO key info:=⟨_,rfl⟩
 have hT0:T 0=[]:=by rw[hT];rfl
 have hO0:O 0=[]:=by rw[hO];rfl
 have hTS:∀i,T (i+1)=tagS key (T i++info++[IntKind.wrap .u8 ((i+1:Nat):Int)]):=by rw[hT];intro i;rfl
 have hOS:∀i,O (i+1)=O i++T (i+1):=by rw[hT,hO];intro i;rfl
 have hTl:∀i,(T i).length≤32:=by rw[hT];exact BV key info
 have hOl:∀i,(O i).length=32*i:=by rw[hO];exact tW key info
 rw[aP (λi=>(O i,T i,((i+1:Nat):Int))) 0 ((n+31) / 32) (r:=O ((n+31) / 32)) (by omega) ?_ (cX (by rw[hOl];simp;omega)) (by rw[hT0,hO0];rfl)]
 rotate_left
 · intro i _ hi2
   have h1:decide (((O i).length:Int)<(n:Int))=true:=by rw[hOl];simp;omega
   have hl:=hTl i
   have ho:=hOl i
   have h2:mkB 0 (IntKind.wrap .i64 ((IntKind.wrap .i64 (((T i).length:Int)+(info.length:Int)))+1))=true:=by
    rw[wrap64 (x:=((T i).length:Int)+(info.length:Int)) (by omega),wrap64 (by omega)];unfold mkB;simp[hroomI];omega
   simp only[h1,h2,cond_true]
   have e0:List.replicate (Int.toNat 0) (0:Int)=[]:=rfl
   rw[e0,aR (by rw[hroom];simp;omega)]
   simp only[ab,List.nil_append]
   rw[aR (by omega)]
   simp only[ab]
   rw[aR (by rw[hroom];simp;omega)]
   simp only[ab]
   rw[tU hk (by simp;omega)]
   simp only[ab]
   rw[←hTS,aR (by rw[hTS,jv];omega)]
   simp only[ab]
   rw[wrap64 (by omega),←hOS];rfl
 simp only[ab]
 rw[ju rfl (by rw[hOl];omega)]
 simp only[ab]
 rw[hO];rfl
theorem Bh {key info:List Int} {n:Nat} (hn:n≤8160) (hk:key.length<2^30) (hi:info.length<2^29):fw key info n=some (exS key info n,0):=by
 unfold fw
 have hroom:room=17179869184:=rfl
 have e1:decide ((n:Int)<0)=false:=decide_eq_false (by omega)
 have e2:decide ((n:Int)>8160)=false:=by simp;omega
 rw[e1,e2]
 simp only[cond_false]
 obtain⟨T,hT⟩:∃T,T=exT key info:=⟨_,rfl⟩
 obtain⟨O,hO⟩:∃O,O=exO key info:=⟨_,rfl⟩
 have hT0:T 0=[]:=by rw[hT];rfl
 have hO0:O 0=[]:=by rw[hO];rfl
 have hTS:∀i,T (i+1)=tagS key (T i++info++[IntKind.wrap .u8 ((i+1:Nat):Int)]):=by rw[hT];intro i;rfl
 have hOS:∀i,O (i+1)=O i++T (i+1):=by rw[hT,hO];intro i;rfl
 have hTl:∀i,(T i).length≤32:=by rw[hT];exact BV key info
 have hOl:∀i,(O i).length=32*i:=by rw[hO];exact tW key info
 rw[aP (λi=>(O i,T i,((i+1:Nat):Int))) 0 ((n+31) / 32) (r:=O ((n+31) / 32)) (by omega) ?_ (cX (by rw[hOl];simp;omega)) (by rw[hT0,hO0];rfl)]
 rotate_left
 · intro i _ hi2
   have h1:decide (((O i).length:Int)<(n:Int))=true:=by rw[hOl];simp;omega
   have hl:=hTl i
   have ho:=hOl i
   simp only[h1,cond_true]
   rw[aR (by rw[hroom];simp;omega)]
   simp only[ab,List.nil_append]
   rw[aR (by omega)]
   simp only[ab]
   rw[aR (by rw[hroom];simp;omega)]
   simp only[ab]
   rw[yf hk (by simp;omega)]
   simp only[ab]
   rw[←hTS,aR (by rw[hTS,jv];omega)]
   simp only[ab]
   rw[wrap64 (by omega),←hOS];rfl
 simp only[ab]
 rw[ju rfl (by rw[hOl];omega)]
 simp only[ab]
 have e3:decide ((n:Int)≤(n:Int)∧(n:Int)≤((O ((n+31) / 32)).length:Int))=true:=by rw[hOl];simp;omega
 rw[e3,hO];rfl
def derS (secret salt info:List Int) (n:Nat):List Int:=exS (tagS salt secret) info n
theorem uO {secret salt info:List Int} {z:Int} {n:Nat} (hz:z=n) (hn:n≤8160) (h1:secret.length<2^30) (h2:salt.length<2^30) (h3:info.length<2^29):jj secret salt info z=some (derS secret salt info n,0):=by subst hz;unfold jj lj;rw[tU h2 h1];simp only[ab];rw[Bg hn (by rw[jv];omega) h3];rfl
theorem uP {secret salt info:List Int} {z:Int} {n:Nat} (hz:z=n) (hn:n≤8160) (h1:secret.length<2^30) (h2:salt.length<2^30) (h3:info.length<2^29):dZ secret salt info z=some (derS secret salt info n,0):=by subst hz;unfold dZ gg;rw[yf h2 h1];simp only[ab];rw[Bh hn (by rw[jv];omega) h3];rfl
end Go.Proofs.YtobbmodjdkcdcaaGreatDoor
