/- A part of the proof. No condition. -/
set_option linter.unusedSimpArgs false
namespace Go.Cod
def stepC (x:Nat):Nat:=if x%2=1 then x/2^^^0xEDB88320 else x/2
def step8 (x:Nat):Nat:=stepC (stepC (stepC (stepC (stepC (stepC (stepC (stepC x)))))))
theorem stepC_xor (a b:Nat):stepC (a^^^b)=stepC a^^^stepC b:=by
 unfold stepC
 have h2:(a^^^b)/2=a/2^^^b/2:=by
  have:=Nat.shiftRight_xor_distrib (a:=a) (b:=b) (i:=1)
  simpa [Nat.shiftRight_eq_div_pow] using this
 have h1:(a^^^b)%2=(a%2+b%2)%2:=by
  have e:=Nat.testBit_xor a b 0
  simp only[Nat.testBit_zero] at e
  rcases Nat.mod_two_eq_zero_or_one a with ha|ha<;>rcases Nat.mod_two_eq_zero_or_one b with hb|hb<;>rcases Nat.mod_two_eq_zero_or_one (a^^^b) with hc|hc<;>simp[ha,hb,hc] at e ⊢
 rw[h1,h2]
 rcases Nat.mod_two_eq_zero_or_one a with ha|ha<;>rcases Nat.mod_two_eq_zero_or_one b with hb|hb<;>simp only[ha,hb]
 ·simp
 ·simp[Nat.xor_assoc]
 ·simp only[Nat.add_zero,Nat.one_mod,if_true]
  rw[if_neg (by omega)]
  rw[Nat.xor_assoc,Nat.xor_comm (b/2),<-Nat.xor_assoc]
 ·simp only[show(1+1)%2=0 from rfl]
  rw[if_neg (by omega),if_pos trivial,if_pos trivial]
  rw[Nat.xor_assoc,Nat.xor_comm 0xEDB88320 (b/2^^^0xEDB88320),Nat.xor_assoc,Nat.xor_self,Nat.xor_zero]
theorem step8_xor (a b:Nat):step8 (a^^^b)=step8 a^^^step8 b:=by
 unfold step8;simp only[stepC_xor]
theorem stepC_double (y:Nat):stepC (2*y)=y:=by
 unfold stepC
 rw[if_neg (by omega)];omega
theorem step8_high (h:Nat):step8 (256*h)=h:=by
 unfold step8
 rw[show 256*h=2*(2*(2*(2*(2*(2*(2*(2*h))))))) by omega]
 simp only[stepC_double]
theorem split_xor (x:Nat):x=(256*(x/256))^^^(x%256):=by
 apply Nat.eq_of_testBit_eq
 intro i
 rw[Nat.testBit_xor,show(256:Nat)=2^8 from rfl,Nat.testBit_two_pow_mul,Nat.testBit_mod_two_pow,Nat.testBit_div_two_pow]
 by_cases h:i<8
 ·simp[h,Nat.not_le.2 h]
 ·have h':8<=i:=by omega
  simp[h,h']
theorem sum_step (x c:Nat):step8 (x^^^c)=(x/256)^^^step8 ((x%256)^^^c):=by
 conv=>lhs;rw[split_xor x]
 rw[Nat.xor_assoc,step8_xor,step8_high]
def sumX:Nat->List Nat->Nat
 | x,[]=>x
 | x,c::l=>sumX (step8 (x^^^c)) l
def crcOf (l:List Nat):Nat:=sumX 0xFFFFFFFF l^^^0xFFFFFFFF
end Go.Cod
namespace Go.Cod
set_option linter.unusedVariables false
def lowB (z:Nat):Nat->List Bool
 | 0 => []
 | n+1=>z.testBit n::lowB z n
def readB:Nat->List Bool->Nat->Option (Nat×List Bool)
 | 0,l,acc=>some (acc,l)
 | _+1,[],_=>none
 | n+1,b::l,acc=>readB n l (2*acc+b.toNat)
theorem lowB_length (z n:Nat):(lowB z n).length=n:=by
 induction n with
 | zero=>rfl
 | succ n ih=>simp[lowB,ih]
theorem testBit_div (z n:Nat):(z.testBit n).toNat=z/2^n%2:=by
 rw[Nat.testBit_eq_decide_div_mod_eq]
 have:=Nat.mod_two_eq_zero_or_one (z/2^n)
 rcases this with h|h<;>simp[h]
theorem mod_pow_succ' (z n:Nat):z%2^(n+1)=z/2^n%2*2^n+z%2^n:=by
 rw[Nat.pow_succ,Nat.mod_mul];rw[Nat.mul_comm (2^n) (z/2^n%2)];omega
theorem readB_lowB (z:Nat) : ∀(n:Nat) (r:List Bool) (acc:Nat),readB n (lowB z n++r) acc=some (acc*2^n+z%2^n,r)
 | 0,r,acc=>by simp[readB,lowB,Nat.mod_one]
 | n+1,r,acc=>by
  simp only[lowB,List.cons_append,readB]
  rw[readB_lowB z n r,mod_pow_succ',testBit_div]
  congr 2
  rw[Nat.add_mul,Nat.pow_succ,Nat.mul_comm 2 acc,Nat.mul_assoc,Nat.mul_comm 2 (2^n)]
  omega
theorem readB_inv : ∀(n:Nat) (l:List Bool) (acc v:Nat) (r:List Bool),readB n l acc=some (v,r)->l=lowB v n++r/\v/2^n=acc
 | 0,l,acc,v,r,h=>by
  simp only[readB,Option.some.injEq,Prod.mk.injEq] at h
  obtain⟨rfl,rfl⟩:=h
  simp[lowB]
 | n+1,[],acc,v,r,h=>by simp[readB] at h
 | n+1,b::l,acc,v,r,h=>by
  simp only[readB] at h
  obtain⟨h1,h2⟩:=readB_inv n l (2*acc+b.toNat) v r h
  have hb:b=v.testBit n:=by
   have e:(v.testBit n).toNat=b.toNat:=by
    rw[testBit_div,h2]
    cases b<;>simp<;>omega
   cases hv:v.testBit n<;>cases b<;>simp[hv] at e ⊢
  refine⟨by simp only[lowB,List.cons_append,<-hb,<-h1],?_⟩
  rw[Nat.pow_succ,<-Nat.div_div_eq_div_mul,h2]
  cases b<;>simp<;>omega
def code (z k:Nat):List Bool:=if z/2^k<24 then List.replicate (z/2^k) true++(false::lowB z k) else List.replicate 24 true++lowB z 32
section
variable {σ:Type} (kOf:σ->Nat) (next:σ->Nat->σ)
def codeL:σ->List Nat->List Bool
 | _,[] => []
 | s,z::l=>code z (kOf s)++codeL (next s z) l
end
end Go.Cod
namespace Go.Cod
set_option linter.unusedVariables false
def unpackB:List Nat->List Bool
 | [] => []
 | x::xs=>lowB x 8++unpackB xs
theorem unpackB_length (xs:List Nat):(unpackB xs).length=8*xs.length:=by
 induction xs with
 | nil=>rfl
 | cons x xs ih=>simp only[unpackB,List.length_append,lowB_length,ih,List.length_cons];omega
theorem unpackB_append (xs ys:List Nat):unpackB (xs++ys)=unpackB xs++unpackB ys:=by
 induction xs with
 | nil=>rfl
 | cons x xs ih=>simp[unpackB,ih]
theorem lowB_get (z:Nat) : ∀(n i:Nat),i<n->(lowB z n)[i]?=some (z.testBit (n-1-i))
 | 0,i,h=>by omega
 | n+1,0,h=>by simp[lowB]
 | n+1,i+1,h=>by
  simp only[lowB,List.getElem?_cons_succ]
  rw[lowB_get z n i (by omega)]
  congr 2;omega
theorem unpackB_get : ∀(xs:List Nat) (i:Nat),i<8*xs.length->(unpackB xs)[i]?=some ((xs.getD (i/8) 0).testBit (7-i%8))
 | [],i,h=>by simp at h
 | x::xs,i,h=>by
  simp only[List.length_cons] at h
  unfold unpackB
  by_cases hi:i<8
  ·rw[List.getElem?_append_left (by rw[lowB_length];exact hi),lowB_get x 8 i hi]
   have e1:i/8=0:=by omega
   have e2:i%8=i:=by omega
   rw[e1,e2]
   simp
  ·rw[List.getElem?_append_right (by rw[lowB_length];omega),lowB_length,unpackB_get xs (i-8) (by omega)]
   have e1:i/8=(i-8)/8+1:=by omega
   have e2:i%8=(i-8)%8:=by omega
   rw[e1,e2]
   simp
theorem lowB_inj {y z:Nat} {n:Nat} (hy:y<2^n) (hz:z<2^n) (h:lowB y n=lowB z n):y=z:=by
 have h1:=readB_lowB y n [] 0
 have h2:=readB_lowB z n [] 0
 rw[h,h2] at h1
 simp only[Nat.zero_mul,Nat.zero_add,Option.some.injEq,Prod.mk.injEq,and_true] at h1
 rw[Nat.mod_eq_of_lt hy,Nat.mod_eq_of_lt hz] at h1
 exact h1.symm
theorem unpackB_inj : ∀(xs ys:List Nat),(∀x∈xs,x<256)->(∀y∈ys,y<256)->unpackB xs=unpackB ys->xs=ys
 | [],[],_,_,_=>rfl
 | [],y::ys,_,_,h=>by have:=congrArg List.length h;simp[unpackB_length] at this
 | x::xs,[],_,_,h=>by have:=congrArg List.length h;simp[unpackB_length] at this
 | x::xs,y::ys,hx,hy,h=>by
  simp only[unpackB] at h
  obtain⟨h1,h2⟩:=List.append_inj h (by simp[lowB_length])
  have e:=lowB_inj (n:=8) (hx x (by simp)) (hy y (by simp)) h1
  have:=unpackB_inj xs ys (fun z hz=>hx z (by simp[hz])) (fun z hz=>hy z (by simp[hz])) h2
  rw[e,this]
def Packed (xs:List Nat) (L:List Bool):Prop:=(∀x∈xs,x<256) /\ ∃n,n<8/\unpackB xs=L++List.replicate n false
theorem Packed.length {xs:List Nat} {L:List Bool} (h:Packed xs L):xs.length=(L.length+7)/8:=by
 obtain⟨_,n,hn,he⟩:=h
 have:=congrArg List.length he
 simp only[unpackB_length,List.length_append,List.length_replicate] at this
 omega
theorem Packed.unique {xs ys:List Nat} {L:List Bool} (h:Packed xs L) (k:Packed ys L):xs=ys:=by
 have h1:=h.length
 have k1:=k.length
 obtain⟨hx,n,hn,he⟩:=h
 obtain⟨hy,m,hm,ke⟩:=k
 have e1:=congrArg List.length he
 have e2:=congrArg List.length ke
 simp only[unpackB_length,List.length_append,List.length_replicate] at e1 e2
 have:n=m:=by omega
 subst this
 exact unpackB_inj xs ys hx hy (by rw[he,ke])
theorem Packed.nil:Packed [] []:=⟨by simp,0,by omega,rfl⟩
theorem lay_bit : ∀(y:Fin 256) (n:Fin 8),(∀i:Fin 8,i.val<=n.val->y.val.testBit i.val=false) -> ∀b:Bool,
  lowB (y.val|||(b.toNat*2^n.val)) 8=(lowB y.val 8).take (7-n.val)++b::List.replicate n.val false/\(y.val|||(b.toNat*2^n.val))<256:=by decide +kernel
theorem Packed.snoc_new {xs:List Nat} {L:List Bool} (h:Packed xs L) (hl:L.length%8=0) (b:Bool):Packed (xs ++ [b.toNat*128]) (L ++ [b]):=by
 have h1:=h.length
 obtain⟨hx,n,hn,he⟩:=h
 have e1:=congrArg List.length he
 simp only[unpackB_length,List.length_append,List.length_replicate] at e1
 obtain rfl:n=0:=by omega
 refine⟨?_,7,by omega,?_⟩
 ·intro x hx'
  rcases List.mem_append.1 hx' with h|h
  ·exact hx x h
  ·simp only[List.mem_singleton] at h;subst h;cases b<;>decide
 ·rw[unpackB_append,he]
  simp only[List.replicate_zero,List.append_nil,unpackB,List.append_assoc,List.append_cancel_left_eq]
  cases b<;>decide
theorem Packed.snoc_in {ys:List Nat} {y:Nat} {L:List Bool} (h:Packed (ys ++ [y]) L) (hl:L.length%8≠0) (b:Bool) :
  Packed (ys ++ [y|||(b.toNat*2^(7-L.length%8))]) (L ++ [b]):=by
 obtain⟨hx,n,hn,he⟩:=h
 have e1:=congrArg List.length he
 simp only[unpackB_length,List.length_append,List.length_replicate,List.length_singleton] at e1
 have hn8:n=8-L.length%8:=by omega
 have hy:y<256:=hx y (by simp)
 have hlow : ∀i:Fin 8,i.val<=n-1->y.testBit i.val=false:=by
  intro i hi
  have hidx:=unpackB_get (ys ++ [y]) (8*ys.length+(7-i.val)) (by simp;omega)
  have d1:(8*ys.length+(7-i.val))/8=ys.length:=by omega
  have d2:(8*ys.length+(7-i.val))%8=7-i.val:=by omega
  rw[d1,d2,he] at hidx
  have d3:(ys ++ [y]).getD ys.length 0=y:=by simp[List.getD_eq_getElem?_getD]
  rw[d3,List.getElem?_append_right (by omega),List.getElem?_replicate,if_pos (by omega)] at hidx
  have d4:7-(7-i.val)=i.val:=by omega
  rw[d4] at hidx
  exact(Option.some.inj hidx).symm
 obtain⟨k1,k2⟩:=lay_bit ⟨y,hy⟩ ⟨n-1,by omega⟩ hlow b
 simp only at k1 k2
 have hexp:7-L.length%8=n-1:=by omega
 rw[hexp]
 refine⟨?_,n-1,by omega,?_⟩
 ·intro x hx'
  rcases List.mem_append.1 hx' with h|h
  ·exact hx x (by simp[h])
  ·simp only[List.mem_singleton] at h;subst h;exact k2
 ·rw[unpackB_append]
  simp only[unpackB,List.append_nil]
  rw[k1]
  have hL:L=unpackB ys++(lowB y 8).take (8-n):=by
   have e2:unpackB ys++lowB y 8=L++List.replicate n false:=by rw[<- he,unpackB_append];simp[unpackB]
   have e3:=congrArg (List.take L.length) e2
   rw[List.take_left,List.take_append,List.take_of_length_le (by rw[unpackB_length];omega)] at e3
   rw[<- e3,unpackB_length]
   congr 2;omega
  have e8:7-(n-1)=8-n:=by omega
  rw[e8]
  conv=>rhs;rw[hL]
  simp only[List.append_assoc,List.singleton_append]
def byteOf (l:List Bool):Nat:=match readB 8 (l.take 8++List.replicate (8-l.length) false) 0 with
 | some (v,_)=>v
 | none=>0
def packN:Nat->List Bool->List Nat
 | 0,_ => []
 | n+1,l=>byteOf l::packN n (l.drop 8)
def packB (l:List Bool):List Nat:=packN ((l.length+7)/8) l
theorem readB_some : ∀(n:Nat) (l:List Bool) (acc:Nat),n<=l.length -> ∃v,readB n l acc=some (v,l.drop n)
 | 0,l,acc,_=>⟨acc,by simp[readB]⟩
 | n+1,[],acc,h=>by simp at h
 | n+1,b::l,acc,h=>by
  obtain⟨v,hv⟩:=readB_some n l (2*acc+b.toNat) (by simpa using h)
  exact⟨v,by simp[readB,hv]⟩
theorem byteOf_low (l:List Bool):lowB (byteOf l) 8=l.take 8++List.replicate (8-l.length) false/\byteOf l<256:=by
 obtain⟨v,hv⟩:=readB_some 8 (l.take 8++List.replicate (8-l.length) false) 0 (by simp;omega)
 obtain⟨h1,h2⟩:=readB_inv 8 _ 0 v _ hv
 have hd:(l.take 8++List.replicate (8-l.length) false).drop 8 = []:=by
  apply List.drop_eq_nil_of_le
  simp;omega
 rw[hd,List.append_nil] at h1
 have hb:byteOf l=v:=by unfold byteOf;rw[hv]
 rw[hb]
 refine⟨h1.symm,?_⟩
 rcases Nat.lt_or_ge v 256 with h|h
 ·exact h
 ·have:1<=v/2^8:=(Nat.le_div_iff_mul_le (by decide)).2 (by omega)
  omega
theorem packN_packed : ∀(n:Nat) (l:List Bool),(l.length+7)/8=n->Packed (packN n l) l
 | 0,l,h=>by
  have:l = []:=List.eq_nil_of_length_eq_zero (by omega)
  subst this
  exact .nil
 | n+1,l,h=>by
  obtain⟨b1,b2⟩:=byteOf_low l
  obtain⟨i1,m,i2,i3⟩:=packN_packed n (l.drop 8) (by simp;omega)
  simp only[packN]
  by_cases hl:8<=l.length
  ·refine⟨?_,m,i2,?_⟩
   ·intro x hx
    rcases List.mem_cons.1 hx with rfl|hx
    ·exact b2
    ·exact i1 x hx
   ·simp only[unpackB,b1,i3]
    have:8-l.length=0:=by omega
    rw[this]
    simp only[List.replicate_zero,List.append_nil]
    rw[<- List.append_assoc,List.take_append_drop]
  ·refine⟨?_,8-l.length,by omega,?_⟩
   ·intro x hx
    rcases List.mem_cons.1 hx with rfl|hx
    ·exact b2
    ·exact i1 x hx
   ·have hn:n=0:=by omega
    subst hn
    simp only[packN,unpackB,b1,List.append_nil]
    rw[List.take_of_length_le (by omega)]
theorem packB_packed (l:List Bool):Packed (packB l) l:=packN_packed _ l rfl
section
variable {σ:Type} (kOf:σ->Nat) (next:σ->Nat->σ)
def encB (s:σ) (l:List Nat):List Nat:=packB (codeL kOf next s l)
end
end Go.Cod
namespace Go.Cod
set_option linter.unusedVariables false
def key (s:Nat):Nat:=if s<2147483648 then s+2147483648 else 4294967295-s
def unfold (z:Nat):Nat:=if z%2=0 then z/2 else 4294967296-(z+1)/2
def be:Nat->Nat->List Nat
 | 0,_ => []
 | n+1,v=>v/256^n%256::be n v
theorem be_length (n v:Nat):(be n v).length=n:=by induction n with|zero=>rfl|succ n ih=>simp[be,ih]
theorem be_lt (n v:Nat) : ∀b∈be n v,b<256:=by
 induction n with
 | zero=>simp[be]
 | succ n ih=>intro b hb;simp only[be,List.mem_cons] at hb;rcases hb with rfl|hb;exact Nat.mod_lt _ (by decide);exact ih b hb
end Go.Cod
namespace Go.Cod
set_option linter.unusedVariables false
theorem stepC_lt {x:Nat} (h:x<4294967296):stepC x<4294967296:=by
 unfold stepC
 split
 ·have:x/2<2^32:=by omega
  exact Nat.xor_lt_two_pow this (by decide)
 ·omega
theorem step8_lt {x:Nat} (h:x<4294967296):step8 x<4294967296:=by
 unfold step8
 exact stepC_lt (stepC_lt (stepC_lt (stepC_lt (stepC_lt (stepC_lt (stepC_lt (stepC_lt h)))))))
theorem sumX_lt : ∀(l:List Nat) (x:Nat),x<4294967296->(∀b∈l,b<256)->sumX x l<4294967296
 | [],x,h,_=>h
 | c::l,x,h,hb=>by
  refine sumX_lt l _ (step8_lt ?_) fun b hb'=>hb b (by simp[hb'])
  have:c<256:=hb c (by simp)
  exact Nat.xor_lt_two_pow (n:=32) h (by omega)
theorem crcOf_lt {l:List Nat} (h : ∀b∈l,b<256):crcOf l<4294967296 :=
 Nat.xor_lt_two_pow (n:=32) (sumX_lt l _ (by decide) h) (by decide)
structure Hd where
 space:Nat
 planes:Nat
 w:Nat
 h:Nat
 side:Nat
 deriving DecidableEq
def Hd.across (d:Hd):Nat:=(d.w+d.side-1)/d.side
def Hd.tiles (d:Hd):Nat:=d.across*((d.h+d.side-1)/d.side)
def Hd.parts (d:Hd):Nat:=d.tiles*d.planes
def Hd.ok (d:Hd):Prop:=d.space<=4/\1<=d.planes/\d.planes<=4/\(d.space≠0->3<=d.planes)/\1<=d.w/\d.w<=1024/\1<=d.h/\d.h<=1024/\d.w*d.h<=65536/\1<=d.side/\d.side<=1024
instance (d:Hd):Decidable d.ok:=by unfold Hd.ok;infer_instance
def indexB (ps:List (List Nat)):List Nat:=ps.flatMap fun p=>be 4 p.length
def frameB (ps:List (List Nat)):List Nat:=ps.flatMap fun p=>p++be 4 (crcOf p)
theorem indexB_length (ps:List (List Nat)):(indexB ps).length=4*ps.length:=by
 induction ps with
 | nil=>rfl
 | cons p ps ih=>simp only[indexB,List.flatMap_cons,List.length_append,be_length,List.length_cons] at ih ⊢;omega
theorem indexB_lt (ps:List (List Nat)) : ∀b∈indexB ps,b<256:=by
 intro b hb
 simp only[indexB,List.mem_flatMap] at hb
 obtain⟨p,_,hb⟩:=hb
 exact be_lt 4 _ b hb
end Go.Cod
namespace Go.Cod
set_option linter.unusedVariables false
def b01 (L:List Bool):List Nat:=L.map Bool.toNat
theorem b01_length (L:List Bool):(b01 L).length=L.length:=by simp[b01]
theorem b01_append (a b:List Bool):b01 (a++b)=b01 a++b01 b:=by simp[b01]
theorem b01_get (L:List Bool) (i:Nat) (b:Bool) (h:L[i]?=some b):(b01 L)[i]?=some b.toNat:=by simp[b01,h]
def bitsV (l:List Bool) (acc:Nat):Nat:=l.foldl (fun a b=>2*a+b.toNat) acc
theorem bitsV_append (a b:List Bool) (acc:Nat):bitsV (a++b) acc=bitsV b (bitsV a acc):=by simp[bitsV]
theorem bitsV_noughts : ∀(m acc:Nat),bitsV (List.replicate m false) acc=acc*2^m
 | 0,acc=>by simp[bitsV]
 | m+1,acc=>by
  have ih:=bitsV_noughts m (2*acc)
  simp only[bitsV,List.replicate_succ,List.foldl_cons,Bool.toNat_false,Nat.add_zero] at ih ⊢
  rw[ih,Nat.pow_succ,Nat.mul_comm 2 acc,Nat.mul_assoc,Nat.mul_comm 2 (2^m)]
theorem readB_val : ∀(n:Nat) (l:List Bool) (acc:Nat),l.length=n->readB n l acc=some (bitsV l acc,[])
 | 0,l,acc,h=>by
  obtain rfl:l = []:=List.eq_nil_of_length_eq_zero h
  simp[readB,bitsV]
 | n+1,[],acc,h=>by simp at h
 | n+1,b::l,acc,h=>by
  simp only[readB,bitsV,List.foldl_cons]
  exact readB_val n l (2*acc+b.toNat) (by simpa using h)
theorem byteOf_val (l:List Bool) (h:l.length<=8):byteOf l=bitsV l 0*2^(8-l.length):=by
 unfold byteOf
 rw[readB_val 8 _ 0 (by simp;omega),List.take_of_length_le h,bitsV_append,bitsV_noughts]
theorem byteOf_snoc (l:List Bool) (b:Bool) (h:l.length<8):byteOf (l ++ [b])=byteOf l+b.toNat*2^(7-l.length):=by
 rw[byteOf_val (l ++ [b]) (by rw[List.length_append,List.length_singleton];omega),byteOf_val l (by omega),bitsV_append]
 have e1:8-(l ++ [b]).length=7-l.length:=by rw[List.length_append,List.length_singleton];omega
 have e2:8-l.length=(7-l.length)+1:=by omega
 rw[e1,e2,Nat.pow_succ]
 simp only[bitsV,List.foldl_cons,List.foldl_nil]
 rw[Nat.add_mul,Nat.mul_comm 2 _,Nat.mul_assoc,Nat.mul_comm 2 (2^_)]
theorem byteOf_lt (l:List Bool):byteOf l<256:=(byteOf_low l).2
theorem byteOf_take (l:List Bool) (h:8<=l.length) (m:List Bool) (e:l.take 8=m.take 8) (k:8<=m.length):byteOf l=byteOf m:=by
 unfold byteOf
 rw[e,show 8-l.length=8-m.length by omega]
theorem packN_length : ∀(n:Nat) (l:List Bool),(packN n l).length=n
 | 0,_=>rfl
 | n+1,l=>by simp[packN,packN_length n]
theorem packN_nil : ∀(n:Nat),packN n []=List.replicate n 0
 | 0=>rfl
 | n+1=>by
  have e:byteOf []=0:=by decide
  simp only[packN,List.drop_nil,e,packN_nil n,List.replicate_succ]
theorem packN_lt : ∀(n:Nat) (l:List Bool),∀x∈packN n l,x<256
 | 0,_=>by simp[packN]
 | n+1,l=>by
  intro x hx
  simp only[packN,List.mem_cons] at hx
  rcases hx with rfl|hx
  ·exact byteOf_lt l
  ·exact packN_lt n _ x hx
theorem packN_next : ∀(N i:Nat) (L:List Bool) (b:Bool),L[i]?=some b->i<8*N ->
  packN N (L.take (i+1))=(packN N (L.take i)).set (i/8) ((packN N (L.take i)).getD (i/8) 0+b.toNat*2^(7-i%8))
 | 0,i,L,b,h,hi=>by omega
 | N+1,i,L,b,h,hi=>by
  obtain⟨hlt,hb⟩:=List.getElem?_eq_some_iff.1 h
  by_cases h8:i<8
  ·have e1:i/8=0:=by omega
   have e2:i%8=i:=by omega
   have et:L.take (i+1)=L.take i ++ [b]:=by rw[List.take_add_one,h];rfl
   have el:(L.take i).length=i:=by rw[List.length_take];omega
   have d1:(L.take i ++ [b]).drop 8 = []:=List.drop_eq_nil_of_le (by simp;omega)
   have d2:(L.take i).drop 8 = []:=List.drop_eq_nil_of_le (by rw[el];omega)
   rw[e1,e2,et]
   simp only[packN,d1,d2,List.set_cons_zero,List.getD_cons_zero]
   rw[byteOf_snoc _ b (by rw[el];omega),el]
  ·have e1:i/8=(i-8)/8+1:=by omega
   have e2:i%8=(i-8)%8:=by omega
   have hd:(L.drop 8)[i-8]?=some b:=by rw[List.getElem?_drop,show 8+(i-8)=i by omega];exact h
   have ih:=packN_next N (i-8) (L.drop 8) b hd (by omega)
   have t1:(L.take (i+1)).drop 8=(L.drop 8).take (i-8+1):=by rw[List.drop_take];congr 1;omega
   have t2:(L.take i).drop 8=(L.drop 8).take (i-8):=by rw[List.drop_take]
   have hb1:byteOf (L.take (i+1))=byteOf (L.take i):=by
    refine byteOf_take _ (by rw[List.length_take];omega) _ ?_ (by rw[List.length_take];omega)
    rw[List.take_take,List.take_take,show min 8 (i+1)=min 8 i by omega]
   rw[e1,e2]
   simp only[packN,t1,t2,List.set_cons_succ,List.getD_cons_succ,hb1,ih]
theorem packN_room (N i:Nat) (L:List Bool) (b:Bool) (h:L[i]?=some b) (hi:i<8*N):(packN N (L.take i)).getD (i/8) 0+b.toNat*2^(7-i%8)<256:=by
 have h1:=packN_next N i L b h hi
 refine packN_lt N (L.take (i+1)) _ ?_
 rw[h1]
 exact List.mem_of_getElem? (i:=i/8) (by rw[List.getElem?_set_self (by rw[packN_length];omega)])
theorem be4 (v:Nat):be 4 v = [v/16777216%256,v/65536%256,v/256%256,v%256]:=by simp[be]
theorem be2 (v:Nat):be 2 v = [v/256%256,v%256]:=by simp[be]
theorem be8 (v:Nat):be 8 v=be 4 (v/4294967296%4294967296)++be 4 (v%4294967296):=by
 simp only[be,List.cons_append,List.nil_append,List.cons.injEq,and_true]
 simp only[show(256:Nat)^7=72057594037927936 from rfl,show(256:Nat)^6=281474976710656 from rfl,show(256:Nat)^5=1099511627776 from rfl,show(256:Nat)^4=4294967296 from rfl,show(256:Nat)^3=16777216 from rfl,show(256:Nat)^2=65536 from rfl,show(256:Nat)^1=256 from rfl,show(256:Nat)^0=1 from rfl,Nat.div_one]
 refine⟨?_,?_,?_,?_,?_,?_,?_,?_⟩<;>omega
end Go.Cod
