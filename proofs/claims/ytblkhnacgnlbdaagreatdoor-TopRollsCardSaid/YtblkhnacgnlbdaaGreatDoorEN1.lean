import Derived.Test.YtblkhnacgnlbdaaGreatDoorEY5
set_option linter.all false
namespace Go.Den
def u8l (l:List UInt8):List (List V):=l.map fun b=>[.int .u8 b.toNat]
theorem str8_len (s:ByteArray):(str8 s).length=s.size:=by unfold str8;rw [List.length_map];rfl
theorem u8l_len (l:List UInt8):(u8l l).length=l.length:=by simp [u8l]
theorem u8l_app (l r:List UInt8):u8l (l++r)=u8l l++u8l r:=by simp [u8l]
theorem u8l_take (l:List UInt8) (n:Nat):(u8l l).take n=u8l (l.take n):=by simp [u8l,List.map_take]
theorem u8l_drop (l:List UInt8) (n:Nat):(u8l l).drop n=u8l (l.drop n):=by simp [u8l,List.map_drop]
theorem vbytes_u8l:∀ (l:List UInt8),vbytes (u8l l)=some l
  | []=>rfl
  | b::r=>by
    have:vbytes (u8l (b::r))=(vbytes (u8l r)).map (UInt8.ofNat ((b.toNat:Int)).toNat::·):=rfl
    rw [this,vbytes_u8l r];simp
theorem str8_get {s:ByteArray} {i:Nat} (h:i < s.size):∃ c:UInt8,(str8 s)[i]?=some [.int .u8 c.toNat]∧s.get! i=c:=by
  obtain ⟨⟨l⟩⟩:=s
  have h':i < l.length:=h
  refine ⟨l[i],?_,?_⟩
  · simp [str8,h']
  · show (Array.mk l)[i]! = l[i]
    simp [h']
theorem u8l_get {l:List UInt8} {i:Nat} (h:i < l.length):(u8l l)[i]?=some [.int .u8 l[i].toNat]:=by simp [u8l,h]
def byteAt (n:Int) (k:Nat):UInt8:=UInt8.ofNat (n / 256 ^ k % 256).toNat
def be:Nat→Int→List UInt8
  | 0,_=>[]
  | k+1,n=>byteAt n k::be k n
theorem be_len:∀ (k:Nat) (n:Int),(be k n).length=k
  | 0,_=>rfl
  | k+1,n=>by simp [be,be_len k]
theorem byteAt_val (n:Int) (k:Nat):((byteAt n k).toNat:Int)=n / 256 ^ k % 256:=by
  have h1:0≤n / 256 ^ k % 256:=Int.emod_nonneg _ (by decide)
  have h2:n / 256 ^ k % 256 < 256:=Int.emod_lt_of_pos _ (by decide)
  unfold byteAt
  generalize n / 256 ^ k % 256=x at *
  obtain ⟨m,rfl⟩:∃ m:Nat,x=m:=⟨x.toNat,by omega⟩
  simp [Nat.mod_eq_of_lt (by omega:m < 256)]
def R64 (n:Int):Prop:=-9223372036854775808≤n∧n < 9223372036854775808
theorem wrap64 (a:Int):IntKind.i64.wrap a=if a % 18446744073709551616 ≥ 9223372036854775808 then a % 18446744073709551616 - 18446744073709551616 else a % 18446744073709551616:=by
  have e:IntKind.i64.wrap a=if (decide (a % 18446744073709551616 ≥ 9223372036854775808))=true then a % 18446744073709551616 - 18446744073709551616 else a % 18446744073709551616:=rfl
  rw [e]
  simp
theorem wrapI8 (a:Int):IntKind.i8.wrap a=if a % 256 ≥ 128 then a % 256 - 256 else a % 256:=by
  have e:IntKind.i8.wrap a=if (decide (a % 256 ≥ 128))=true then a % 256 - 256 else a % 256:=rfl
  rw [e]
  simp
theorem wrapI32 (a:Int):IntKind.i32.wrap a=if a % 4294967296 ≥ 2147483648 then a % 4294967296 - 4294967296 else a % 4294967296:=by
  have e:IntKind.i32.wrap a=if (decide (a % 4294967296 ≥ 2147483648))=true then a % 4294967296 - 4294967296 else a % 4294967296:=rfl
  rw [e]
  simp
theorem wrapU8 (a:Int):IntKind.u8.wrap a=a % 256:=rfl
theorem wrap_r (a:Int):R64 (IntKind.i64.wrap a):=by rw [wrap64];unfold R64;split<;>omega
theorem wrap_add (a b:Int):IntKind.i64.wrap (IntKind.i64.wrap a+b)=IntKind.i64.wrap (a+b):=by simp only [wrap64];split<;>split<;>split<;>omega
theorem or_byte (n c:Int) (hc:0≤c∧c < 256):IntKind.i64.wrap (BitVec.ofInt IntKind.i64.bits (IntKind.i64.wrap (n*2 ^ min (8:Int).toNat IntKind.i64.bits)) ||| BitVec.ofInt IntKind.i64.bits c).toNat=IntKind.i64.wrap (n*256+c):=by
  have e1:min (8:Int).toNat IntKind.i64.bits=8:=rfl
  have e2:IntKind.i64.bits=64:=rfl
  rw [e1,e2,show (2:Int) ^ 8=256 from rfl]
  have h1:(BitVec.ofInt 64 (IntKind.i64.wrap (n*256)))=BitVec.ofInt 64 n <<< 8:=by
    apply BitVec.eq_of_toInt_eq
    rw [BitVec.toInt_shiftLeft]
    simp only [BitVec.toInt_ofInt,BitVec.toNat_ofInt,wrap64,Int.bmod,Nat.shiftLeft_eq]
    have:((n % (2 ^ 64:Nat)).toNat:Int)=n % 18446744073709551616:=by omega
    split<;>omega
  have h2:(BitVec.ofInt 64 (IntKind.i64.wrap (n*256)) &&& BitVec.ofInt 64 c)=0#64:=by
    rw [h1]
    apply BitVec.eq_of_getElem_eq
    intro i hi
    simp only [BitVec.getElem_and,BitVec.getElem_shiftLeft,BitVec.getElem_zero]
    by_cases h8:i < 8
    · simp [h8]
    · have:(BitVec.ofInt 64 c)[i]=false:=by
        rw [BitVec.getElem_eq_testBit_toNat,BitVec.toNat_ofInt]
        have:(c % ((2 ^ 64:Nat):Int)).toNat < 2 ^ 8:=by omega
        exact Nat.testBit_lt_two_pow (Nat.lt_of_lt_of_le this (Nat.pow_le_pow_right (by decide) (by omega)))
      simp [this]
  rw [← BitVec.add_eq_or_of_and_eq_zero _ _ h2,BitVec.toNat_add,BitVec.toNat_ofInt,BitVec.toNat_ofInt]
  simp only [wrap64]
  split<;>split<;>split<;>omega
section
variable {P:Nat→Option Fun} {n d:Nat} {y:Ys} {k:Ys→Prop}
theorem wp_ld8 {t i:Nat} {a:A} {s:ByteArray} (e1:ev y [] a=some (.pin (str8 s) i 0)) (h:i < s.size) (hk:putK n y t (.int .u8 (s.get! i).toNat) k):WpO P n d (.ld t none a) y k:=by
  obtain ⟨c,h1,h2⟩:=str8_get h
  refine wp_ldpin e1 h1 ?_
  rw [← h2] at h1 ⊢
  exact ⟨rfl,hk⟩
theorem wp_ld8l {t i:Nat} {a:A} {l:List UInt8} (e1:ev y [] a=some (.pin (u8l l) i 0)) (h:i < l.length) (hk:∀ c,l[i]?=some c→putK n y t (.int .u8 c.toNat) k):WpO P n d (.ld t none a) y k:=by
  refine wp_ldpin e1 (u8l_get h) ?_
  exact ⟨rfl,hk _ (List.getElem?_eq_getElem h)⟩
end
end Go.Den
namespace Go.Den
def numS (four:Bool):Nat→Int→List UInt8→Int
  | _,n,[]=>n
  | k,n,c::r=>numS four (k+1) (if k=0∧four=true then IntKind.i8.wrap c.toNat else IntKind.i64.wrap (n*256+c.toNat)) r
def numL (size:Nat) (l:List UInt8):Int:=numS (size == 4) 0 0 l
theorem i8_r (a:Int):-128≤IntKind.i8.wrap a∧IntKind.i8.wrap a < 128:=by rw [wrapI8];split<;>omega
theorem num1 {n:Int} (h:0≤n∧n < 256):numL 1 (be 1 n)=n:=by
  simp only [numL,be,numS,byteAt_val,wrap64]
  simp
  omega
theorem i8w (n:Int) (h:-128≤n∧n < 128):IntKind.i8.wrap (n % 256)=n:=by rw [wrapI8];split<;>omega
theorem s4 (m:Int) (h:R64 m):IntKind.i64.wrap (m / 256*256+m % 256)=m:=by
  have:m / 256*256+m % 256=m:=by omega
  rw [this,wrap64];unfold R64 at h;split<;>omega
theorem s8 (m M:Int) (hM:0 < M) (hw:M*256≤9223372036854775808):IntKind.i64.wrap (m / 256 % M*256+m % 256)=m % (M*256):=by
  have e:m / 256 % M*256+m % 256=m % (M*256):=by
    have h1:m % (M*256) % 256=m % 256:=Int.emod_emod_of_dvd _ ⟨M,Int.mul_comm _ _⟩
    have h2:m % (M*256) / 256=m / 256 % M:=by
      have q1:=Int.emod_nonneg m (show M*256≠0 by omega)
      have q2:=Int.emod_lt_of_pos m (show 0 < M*256 by omega)
      have q3:m=M*(m / (M*256))*256+m % (M*256):=by
        have:=Int.mul_ediv_add_emod m (M*256)
        rw [Int.mul_right_comm];omega
      generalize m % (M*256)=r at *
      generalize hK:M*(m / (M*256))=K at *
      have q4:m / 256=r / 256+K:=by omega
      rw [q4,← hK,Int.add_mul_emod_self_left]
      exact (Int.emod_eq_of_lt (by omega) (by omega)).symm
    omega
  rw [e,wrap64]
  have h1:=Int.emod_nonneg m (show M*256≠0 by omega)
  have h2:=Int.emod_lt_of_pos m (show 0 < M*256 by omega)
  split<;>omega
theorem dd (n:Int) (k:Nat):n / 256 ^ (k+1)=n / 256 ^ k / 256:=by
  rw [Int.pow_succ,Int.ediv_ediv_of_nonneg (Int.pow_nonneg (by decide))]
theorem num4 {n:Int} (h:-2147483648≤n∧n < 2147483648):numL 4 (be 4 n)=n:=by
  have e:numL 4 (be 4 n)=IntKind.i64.wrap (IntKind.i64.wrap (IntKind.i64.wrap (IntKind.i8.wrap ((byteAt n 3).toNat)*256+(byteAt n 2).toNat)*256+(byteAt n 1).toNat)*256+(byteAt n 0).toNat):=rfl
  rw [e]
  simp only [byteAt_val]
  have h3:n / 256 ^ 3=n / 256 ^ 2 / 256:=dd n 2
  have h2:n / 256 ^ 2=n / 256 ^ 1 / 256:=dd n 1
  have h1:n / 256 ^ 1=n / 256 ^ 0 / 256:=dd n 0
  have h0:n / 256 ^ 0=n:=by simp
  rw [i8w _ (by rw [h3,h2,h1,h0];omega),h3,s4 _ (by rw [h2,h1,h0];unfold R64;omega),h2,s4 _ (by rw [h1,h0];unfold R64;omega),h1,s4 _ (by rw [h0];unfold R64;omega),h0]
theorem num8 {n:Int} (h:R64 n):numL 8 (be 8 n)=n:=by
  have e:numL 8 (be 8 n)=IntKind.i64.wrap (IntKind.i64.wrap (IntKind.i64.wrap (IntKind.i64.wrap (IntKind.i64.wrap (IntKind.i64.wrap (IntKind.i64.wrap (IntKind.i64.wrap (0*256+(byteAt n 7).toNat)*256+(byteAt n 6).toNat)*256+(byteAt n 5).toNat)*256+(byteAt n 4).toNat)*256+(byteAt n 3).toNat)*256+(byteAt n 2).toNat)*256+(byteAt n 1).toNat)*256+(byteAt n 0).toNat):=rfl
  rw [e]
  simp only [byteAt_val]
  have h7:IntKind.i64.wrap (0*256+n / 256 ^ 7 % 256)=n / 256 ^ 7 % 256:=by
    generalize n / 256 ^ 7=m
    rw [wrap64];split<;>omega
  rw [h7,dd n 6,s8 _ 256 (by decide) (by decide),dd n 5,s8 _ (256*256) (by decide) (by decide),dd n 4,s8 _ (256*256*256) (by decide) (by decide),dd n 3,s8 _ (256*256*256*256) (by decide) (by decide),
    dd n 2,s8 _ (256*256*256*256*256) (by decide) (by decide),dd n 1,s8 _ (256*256*256*256*256*256) (by decide) (by decide),dd n 0]
  have h0:n / 256 ^ 0=n:=by simp
  rw [h0,wrap64]
  unfold R64 at h
  have e2:n / 256 % (256*256*256*256*256*256*256)*256+n % 256=n % 18446744073709551616:=by omega
  rw [e2]
  split<;>omega
end Go.Den
namespace Go.Den
def tl (b:ByteArray):List UInt8:=b.data.toList
theorem tl_len (b:ByteArray):(tl b).length=b.size:=rfl
theorem tl_inj {a b:ByteArray} (h:tl a=tl b):a=b:=str_eq h
theorem tl_app (a b:ByteArray):tl (a++b)=tl a++tl b:=by simp only [tl,ByteArray.data_append,Array.toList_append]
theorem tl_ext (b:ByteArray) (i j:Nat):tl (b.extract i j)=((tl b).take j).drop i:=by
  simp [tl,ByteArray.data_extract,List.drop_take]
theorem tl_mk (l:List UInt8):tl ⟨l.toArray⟩=l:=by simp [tl]
theorem mk_tl (b:ByteArray):(⟨(tl b).toArray⟩:ByteArray)=b:=tl_inj (tl_mk _)
theorem get_tl (b:ByteArray) (i:Nat) (h:i < b.size):b[i]! = (tl b)[i]'(by rw [tl_len];exact h):=by
  rw [getElem!_pos b i h]
  simp [tl,ByteArray.getElem_eq_getElem_data]
theorem ix_first {b:ByteArray} {c:UInt8} {s r:List UInt8} (h:tl b=s++c::r) (hs:c ∉ s):ixByte b c=s.length:=by
  have hsz:b.size=s.length+(r.length+1):=by rw [← tl_len,h];simp
  have:(List.range b.size).find? (fun i=>b[i]! == c)=some s.length:=by
    rw [List.find?_range_eq_some]
    refine ⟨?_,by simp;omega,fun j hj=>?_⟩
    · rw [get_tl b _ (by omega)]
      simp [h]
    · rw [get_tl b _ (by omega)]
      simp only [h,Bool.not_eq_true',beq_eq_false_iff_ne,ne_eq]
      rw [List.getElem_append_left (by omega)]
      intro e
      exact hs (e▸List.getElem_mem _)
  unfold ixByte
  rw [this]
theorem ix_none {b:ByteArray} {c:UInt8} (hs:c ∉ tl b):ixByte b c = -1:=by
  have:(List.range b.size).find? (fun i=>b[i]! == c)=none:=by
    rw [List.find?_eq_none]
    intro i hi
    rw [List.mem_range] at hi
    rw [get_tl b _ hi]
    simp only [beq_iff_eq]
    intro e
    exact hs (e▸List.getElem_mem _)
  unfold ixByte
  rw [this]
def AtR (p:List UInt8) (k:Nat) (s:List UInt8):Prop:=0 ∉ s∧∃ r,p.drop k=s++0::r
theorem AtR.app {p q s:List UInt8} {k:Nat} (h:AtR p k s):AtR (p++q) k s:=by
  obtain ⟨h0,r,h⟩:=h
  refine ⟨h0,r++q,?_⟩
  have hk:k≤p.length:=by
    rcases Nat.lt_or_ge p.length k with hh | hh
    · rw [List.drop_eq_nil_of_le (by omega)] at h;simp at h
    · exact hh
  rw [List.drop_append_of_le_length hk,h];simp
theorem AtR.new {p s:List UInt8} (h0:0 ∉ s):AtR (p++(s++[0])) p.length s:=⟨h0,[],by simp⟩
theorem AtR.lt {p s:List UInt8} {k:Nat} (h:AtR p k s):k+s.length < p.length:=by
  obtain ⟨_,r,h⟩:=h
  have:=congrArg List.length h
  simp at this;omega
end Go.Den
namespace Go.Den
theorem dec_w (b:ByteArray) (p:Nat) (h:p < b.size):1≤(Utf8.decode b p).2∧p+(Utf8.decode b p).2≤b.size:=by
  unfold Utf8.decode
  simp only
  split
  · exact ⟨Nat.le_refl _,h⟩
  split
  · rename_i h1
    simp only [Bool.and_eq_true,decide_eq_true_eq] at h1
    split
    · exact ⟨by omega,by omega⟩
    · exact ⟨Nat.le_refl _,h⟩
  split
  · rename_i h1
    simp only [Bool.and_eq_true,decide_eq_true_eq] at h1
    split
    · exact ⟨by omega,by omega⟩
    · exact ⟨Nat.le_refl _,h⟩
  split
  · rename_i h1
    simp only [Bool.and_eq_true,decide_eq_true_eq] at h1
    split
    · exact ⟨by omega,by omega⟩
    · exact ⟨Nat.le_refl _,h⟩
  · exact ⟨Nat.le_refl _,h⟩
theorem dec_ascii (b:ByteArray) (p:Nat) (h:(Utf8.decode b p).1 < 128):(Utf8.decode b p)=((b.get! p).toNat,1):=by
  unfold Utf8.decode at h ⊢
  simp only at h ⊢
  split
  · rfl
  · rename_i h0
    rw [if_neg h0] at h
    exfalso
    split at h
    · split at h
      · simp only at h;omega
      · exact absurd h (by decide)
    split at h
    · split at h
      · rename_i hc
        simp only [Bool.and_eq_true,decide_eq_true_eq] at hc
        simp only at h;omega
      · exact absurd h (by decide)
    split at h
    · split at h
      · rename_i hc
        simp only [Bool.and_eq_true,decide_eq_true_eq] at hc
        simp only at h;omega
      · exact absurd h (by decide)
    · exact absurd h (by decide)
theorem get_b (b:ByteArray) (p:Nat) (h:p < b.size):b.get! p=(tl b)[p]'(by rw [tl_len];exact h):=by
  obtain ⟨⟨l⟩⟩:=b
  have h':p < l.length:=h
  show (Array.mk l)[p]! = l[p]
  simp [h']
end Go.Den
namespace Go.Den
def rdN (z:Nat):Nat→List UInt8→List Int × List UInt8
  | 0,l=>([],l)
  | n+1,l=>(numL z (l.take z)::(rdN z n (l.drop z)).1,(rdN z n (l.drop z)).2)
def rdP (z x:Nat):Nat→List UInt8→List (Int × Int) × List UInt8
  | 0,l=>([],l)
  | n+1,l=>((numL z (l.take z),numL x ((l.drop z).take x))::(rdP z x n ((l.drop z).drop x)).1,(rdP z x n ((l.drop z).drop x)).2)
def rdT:Nat→List UInt8→List (Int × Int × Int) × List UInt8
  | 0,l=>([],l)
  | n+1,l=>((numL 4 (l.take 4),numL 1 ((l.drop 4).take 1),numL 1 (((l.drop 4).drop 1).take 1))::(rdT n (((l.drop 4).drop 1).drop 1)).1,(rdT n (((l.drop 4).drop 1).drop 1)).2)
theorem rdN_len (z:Nat):∀ (n:Nat) (l:List UInt8),(rdN z n l).1.length=n∧(rdN z n l).2=l.drop (n*z)
  | 0,l=>by simp [rdN]
  | n+1,l=>by
    obtain ⟨h1,h2⟩:=rdN_len z n (l.drop z)
    simp only [rdN,List.length_cons,h1,h2,List.drop_drop,true_and]
    rw [Nat.succ_mul,Nat.add_comm]
theorem rdP_len (z x:Nat):∀ (n:Nat) (l:List UInt8),(rdP z x n l).1.length=n∧(rdP z x n l).2=l.drop (n*(z+x))
  | 0,l=>by simp [rdP]
  | n+1,l=>by
    obtain ⟨h1,h2⟩:=rdP_len z x n ((l.drop z).drop x)
    refine ⟨by simp only [rdP,List.length_cons,h1],?_⟩
    simp only [rdP,h2]
    simp only [List.drop_drop]
    congr 1;rw [Nat.succ_mul];omega
theorem rdT_len:∀ (n:Nat) (l:List UInt8),(rdT n l).1.length=n∧(rdT n l).2=l.drop (n*6)
  | 0,l=>by simp [rdT]
  | n+1,l=>by
    obtain ⟨h1,h2⟩:=rdT_len n (((l.drop 4).drop 1).drop 1)
    refine ⟨by simp only [rdT,List.length_cons,h1],?_⟩
    simp only [rdT,h2]
    simp only [List.drop_drop]
    congr 1;omega
theorem take_be (z:Nat) (n:Int) (r:List UInt8):(be z n++r).take z=be z n:=by
  have:=be_len z n
  rw [List.take_append_of_le_length (by omega),List.take_of_length_le (by omega)]
theorem drop_be (z:Nat) (n:Int) (r:List UInt8):(be z n++r).drop z=r:=by
  have:=be_len z n
  rw [List.drop_append_of_le_length (by omega),List.drop_eq_nil_of_le (by omega)];rfl
theorem rdN_enc {z:Nat}:∀ {xs:List Int} (r:List UInt8),(∀ x ∈ xs,numL z (be z x)=x)→rdN z xs.length (xs.flatMap (be z)++r)=(xs,r)
  | [],r,_=>rfl
  | x::xs,r,h=>by
    have ih:=rdN_enc (z:=z) (xs:=xs) r fun y hy=>h y (List.mem_cons_of_mem _ hy)
    simp only [List.flatMap_cons,List.length_cons,rdN,List.append_assoc,take_be,drop_be,ih,h x (by simp)]
theorem rdP_enc {z x:Nat}:∀ {xs:List (Int × Int)} (r:List UInt8),(∀ p ∈ xs,numL z (be z p.1)=p.1∧numL x (be x p.2)=p.2)→rdP z x xs.length (xs.flatMap (fun p=>be z p.1++be x p.2)++r)=(xs,r)
  | [],r,_=>rfl
  | p::xs,r,h=>by
    have ih:=rdP_enc (z:=z) (x:=x) (xs:=xs) r fun y hy=>h y (List.mem_cons_of_mem _ hy)
    have hp:=h p (by simp)
    simp only [List.flatMap_cons,List.length_cons,rdP,List.append_assoc,take_be,drop_be,ih,hp.1,hp.2]
theorem rdT_enc:∀ {xs:List (Int × Int × Int)} (r:List UInt8),(∀ p ∈ xs,numL 4 (be 4 p.1)=p.1∧numL 1 (be 1 p.2.1)=p.2.1∧numL 1 (be 1 p.2.2)=p.2.2)→rdT xs.length (xs.flatMap (fun p=>be 4 p.1++(be 1 p.2.1++be 1 p.2.2))++r)=(xs,r)
  | [],r,_=>rfl
  | p::xs,r,h=>by
    have ih:=rdT_enc (xs:=xs) r fun y hy=>h y (List.mem_cons_of_mem _ hy)
    have hp:=h p (by simp)
    simp only [List.flatMap_cons,List.length_cons,rdT,List.append_assoc,take_be,drop_be,ih,hp.1,hp.2.1,hp.2.2]
structure Zn where
  types:List (Int × Bool × ByteArray)
  trans:List (Int × Int)
  leaps:List (Int × Int)
  foot:ByteArray
  ver:Int
def tyV (t:Int × Bool × ByteArray):List V:=[i64 t.1,.bool t.2.1,.str t.2.2]
def prV (t:Int × Int):List V:=[i64 t.1,i64 t.2]
def Zn.l (z:Zn):List V:=[.sl 3 (z.types.map tyV) .sh,.sl 2 (z.trans.map prV) .sh,.sl 2 (z.leaps.map prV) .sh,.str z.foot,i64 z.ver]
def Zn.v (z:Zn):V:=.agg z.l
structure Lp where
  day:Int
  step:Int
  roll:Bool
def Lp.l (p:Lp):List V:=[i64 p.day,i64 p.step,.bool p.roll]
structure Tb where
  leaps:List Lp
  has:Bool
  exp:Int
def Tb.l (t:Tb):List V:=[.sl 3 (t.leaps.map Lp.l) .sh,.bool t.has,i64 t.exp]
def Tb.v (t:Tb):V:=.agg t.l
end Go.Den
namespace Go.Den
variable {P:Nat→Option Fun} {n d:Nat} {y:Ys} {k:Ys→Prop} {α:Type} {enc:α→List V} {l:List α}
def stE (b:ByteArray):List V:=[.str b]
theorem map_get {i:Nat} (hi:i < l.length):∃ x,l[i]?=some x∧(l.map enc)[i]?=some (enc x):=⟨l[i],by simp [hi],by simp [hi]⟩
theorem wp_ldpinM {t i off:Nat} {sz:Option Nat} {a:A} (e1:ev y [] a=some (.pin (l.map enc) i off)) (hi:i < l.length) (h:∀ x,l[i]?=some x→dropC (enc x) off fun c=>hasUq (c.take (sz.getD 1))=false∧tkC (sz.getD 1) c fun cs=>aggC sz cs fun v=>putK n y t v k):WpO P n d (.ld t sz a) y k:=by
  obtain ⟨x,h1,h2⟩:=map_get (enc:=enc) hi
  exact wp_ldpin e1 h2 (h x h1)
theorem wp_ldRM {t t' u' i off z:Nat} {sz:Option Nat} {a:A} {fz:Bool} (e1:ev y [] a=some (.ptr (d,t',u') i off)) (el:alook y.l t' u'=some (.row z (l.map enc) fz)) (hi:i < l.length) (h:∀ x,l[i]?=some x→dropC (enc x) off fun c=>hasUq (c.take (sz.getD 1))=false∧tkC (sz.getD 1) c fun cs=>aggC sz cs fun v=>putK n y t v k):WpO P n d (.ld t sz a) y k:=by
  obtain ⟨x,h1,h2⟩:=map_get (enc:=enc) hi
  exact wp_ldR e1 el h2 (h x h1)
theorem wp_stRM {a b:A} {v:V} {t' u' i off z:Nat} (f:α→α) (e1:ev y [] a=some (.ptr (d,t',u') i off)) (e2:ev y [] b=some v) (el:alook y.l t' u'=some (.row z (l.map enc) false)) (hi:i < l.length) (hp:v.pure=true) (hl:∀ x,off < (enc x).length) (hf:∀ x,(enc x).set off v=enc (f x)) (h:∀ x,l[i]?=some x→updC y.l t' u' (fun _ k2=>k2 (.row z ((l.set i (f x)).map enc) false)) fun l=>k ⟨y.e,l,y.f,y.w⟩):WpO P n d (.st none a b) y k:=by
  obtain ⟨x,h1,h2⟩:=map_get (enc:=enc) hi
  refine wp_stR e1 e2 el h2 hp (hl x) ?_
  have e:(l.map enc).set i ((enc x).set off v)=(l.set i (f x)).map enc:=by rw [hf,List.map_set]
  rw [e]
  exact h x h1
theorem u8_r (a:Int):0≤IntKind.u8.wrap a∧IntKind.u8.wrap a < 256:=by rw [wrapU8];omega
theorem u8_of {x:Int} (h:0≤x∧x < 256):((UInt8.ofNat x.toNat).toNat:Int)=x:=by
  obtain ⟨m,rfl⟩:∃ m:Nat,x=m:=⟨x.toNat,by omega⟩
  have:m < 256:=by omega
  simp [Nat.mod_eq_of_lt this]
theorem wp_st8 {a b:A} {t' u' i:Nat} {x:Int} {l:List UInt8} (e1:ev y [] a=some (.ptr (d,t',u') i 0)) (e2:ev y [] b=some (.int .u8 x)) (el:alook y.l t' u'=some (.row 1 (u8l l) false)) (hi:i < l.length) (hx:0≤x∧x < 256) (h:updC y.l t' u' (fun _ k2=>k2 (.row 1 (u8l (l.set i (UInt8.ofNat x.toNat))) false)) fun l=>k ⟨y.e,l,y.f,y.w⟩):WpO P n d (.st none a b) y k:=by
  refine wp_stR e1 e2 el (u8l_get hi) rfl (by simp) ?_
  have e:(u8l l).set i ([V.int .u8 l[i].toNat].set 0 (.int .u8 x))=u8l (l.set i (UInt8.ofNat x.toNat)):=by
    unfold u8l
    rw [List.map_set]
    simp only [List.set_cons_zero,u8_of hx]
  rw [e]
  exact h
theorem wp_b2s {t:Nat} {a:A} {l:List UInt8} {o:Own} (e1:ev y [] a=some (.sl 1 (u8l l) o)) (h:putK n y t (.str ⟨l.toArray⟩) k):WpO P n d (.b2s t a) y k:=⟨_,by
  simp only [pv,ev1,e1,srcB,srcV,true_or,if_true,vbytes_u8l,Option.map_some],h⟩
theorem wp_b2sA {t t' u' m:Nat} {a:A} {l:List UInt8} {fz:Bool} (e1:ev y [] a=some (.arr (d,t',u') 1 0 m)) (el:alook y.l t' u'=some (.row 1 (u8l l) fz)) (hm:m=l.length) (h:putK n y t (.str ⟨l.toArray⟩) k):WpO P n d (.b2s t a) y k:=⟨_,by
  have hg:y.mem.get d (d,t',u')=some (.row 1 (u8l l) fz):=by simp only [St.get,if_true,Ys.mem,el]
  simp only [pv,ev1,e1,srcB,srcV,hg]
  rw [if_pos ⟨trivial,trivial,by rw [u8l_len];omega⟩]
  have:((u8l l).drop 0).take m=u8l l:=by rw [List.drop_zero,List.take_of_length_le (by rw [u8l_len];omega)]
  simp only [this,vbytes_u8l,Option.map_some],h⟩
theorem rcat {t:Nat} {a b:A} {x z:ByteArray} (e1:ev y [] a=some (.str x)) (e2:ev y [] b=some (.str z)) (hc:x.size+z.size≤4611686018427387904) (h:putK n y t (.str (x++z)) k):WpO P n d (.bin t .add a b) y k:=⟨_,by
  simp only [pv,ev2,ev1,e1,e2,binV]
  exact if_pos hc,h⟩
theorem foldl_inv {β:Type} (I:β→Prop) (f:β→UInt8→β) (ar:ByteArray) (hf:∀ b x,I b→I (f b x)) (init:β) (h0:I init):I (ar.foldl f init):=by
  have key:∀ (stop:Nat) (h:stop≤ar.size) (i j:Nat) (b:β),I b→I (_root_.Id.run (ByteArray.foldlM.loop (m:=_root_.Id) (fun b x=>pure (f b x)) ar stop h i j b)):=by
    intro stop h i
    induction i with
    | zero =>
      intro j b hb
      unfold ByteArray.foldlM.loop
      split<;>exact hb
    | succ i ih =>
      intro j b hb
      unfold ByteArray.foldlM.loop
      split
      · exact ih _ _ (hf _ _ hb)
      · exact hb
  unfold ByteArray.foldl ByteArray.foldlM
  simp only [Nat.le_refl,dite_true]
  exact key _ _ _ _ _ h0
theorem foldl_le (f:Int→UInt8→Int) (ar:ByteArray) (hf:∀ b x,f b x≤b+1) (init:Int):ar.foldl f init≤init+ar.size:=by
  have key:∀ (stop:Nat) (h:stop≤ar.size) (i j:Nat) (b:Int),_root_.Id.run (ByteArray.foldlM.loop (m:=_root_.Id) (fun b x=>pure (f b x)) ar stop h i j b)≤b+i:=by
    intro stop h i
    induction i with
    | zero =>
      intro j b
      unfold ByteArray.foldlM.loop
      split<;>(show b≤b+((0:Nat):Int);omega)
    | succ i ih =>
      intro j b
      unfold ByteArray.foldlM.loop
      split
      · have h1:=ih (j+1) (f b ar[j])
        have h2:=hf b ar[j]
        simp only [_root_.Id.run,pure,bind] at h1 ⊢
        omega
      · simp only [_root_.Id.run,pure];omega
  unfold ByteArray.foldl ByteArray.foldlM
  simp only [Nat.le_refl,dite_true]
  exact key _ _ _ _ _
theorem cs_bound (s:ByteArray) (c:UInt8):0≤csByte s c∧csByte s c≤s.size:=by
  unfold csByte
  refine ⟨foldl_inv (fun n=>0≤n) _ s (fun b x hb=>?_) 0 (Int.le_refl 0),?_⟩
  · split<;>omega
  · have:=foldl_le (fun (n:Int) x=>if x == c then n+1 else n) s (fun b x=>by split<;>omega) 0
    omega
theorem rmin {t:Nat} {a b:A} {i j:Int} {q:IntKind} (e1:ev y [] a=some (.int q i)) (e2:ev y [] b=some (.int q j)) (h:putK n y t (.int q (min i j)) k):WpO P n d (.mnx t false a [b]) y k:=⟨_,by
  simp only [pv,ev1,e1,evL,e2,mnxV,if_true,Bool.false_eq_true,if_false,Option.map_some]
  rw [show (if j < i then j else i)=min i j by omega],h⟩
theorem rmax {t:Nat} {a b:A} {i j:Int} {q:IntKind} (e1:ev y [] a=some (.int q i)) (e2:ev y [] b=some (.int q j)) (h:putK n y t (.int q (max i j)) k):WpO P n d (.mnx t true a [b]) y k:=⟨_,by
  simp only [pv,ev1,e1,evL,e2,mnxV,if_true,Option.map_some]
  rw [show (if i < j then j else i)=max i j by omega],h⟩
end Go.Den
namespace Go.Den
theorem shr_byte (n:Int) (K:Int) (h:1≤K∧K≤8):IntKind.u8.wrap (n.fdiv (2 ^ min (8*(K - 1)).toNat IntKind.i64.bits))=((byteAt n (K - 1).toNat).toNat:Int):=by
  have e2:IntKind.i64.bits=64:=rfl
  obtain ⟨k,hk,rfl⟩:∃ k:Nat,k < 8∧K=(k:Int)+1:=⟨(K - 1).toNat,by omega,by omega⟩
  have e1:min (8*((k:Int)+1 - 1)).toNat IntKind.i64.bits=8*k:=by rw [e2];omega
  have e3:((k:Int)+1 - 1).toNat=k:=by omega
  have e4:(2:Int) ^ (8*k)=256 ^ k:=by rw [Int.pow_mul];rfl
  rw [byteAt_val,e1,e3,e4,wrapU8,Int.fdiv_eq_ediv_of_nonneg _ (Int.pow_nonneg (by decide))]
def rdr (r:Option (List UInt8)):Obj:=.cells 2 [[.sl 1 (u8l (r.getD [])) (if r.isSome=true then .sh else .tight),.bool (!r.isSome)]]
theorem rdr_none:rdr none=.cells 2 [[.sl 1 [] .tight,.bool true]]:=rfl
theorem rdr_some (l:List UInt8):rdr (some l)=.cells 2 [[.sl 1 (u8l l) .sh,.bool false]]:=rfl
def tkR (n:Int):Option (List UInt8)→Option (List UInt8)
  | none=>none
  | some l=>if 0≤n∧n≤l.length then some (l.drop n.toNat) else none
def tkV (n:Int):Option (List UInt8)→List UInt8
  | none=>[]
  | some l=>if 0≤n∧n≤l.length then l.take n.toNat else []
end Go.Den
namespace Go.Den
variable {P:Nat→Option Fun} {n d:Nat} {y:Ys} {k:Ys→Prop} {G:Gs} {α:Type} {enc:α→List V} {l:List α}
theorem pia {t z:Nat} {a b:A} {q:IntKind} {j:Int} {es:List (List V)} {o:Own} (e1:ev y G a=some (.sl z es o)) (e2:ev y G b=some (.int q j)) (ho:(V.sl z es o).uq=false) (hc:0≤j∧j < es.length):pv d (.ia t z a b) y G=some (.pin es j.toNat 0):=by
  simp only [pv,ev2,ev1,e1,e2,ho,cond_false]
  exact if_pos ⟨trivial,hc.1,hc.2⟩
theorem at_pin {s:St} {i off:Nat} (hi:i < l.length):∃ x,l[i]?=some x∧s.at d (.pin (l.map enc) i off)=some ((enc x).drop off):=by
  obtain ⟨x,h1,h2⟩:=map_get (enc:=enc) hi
  exact ⟨x,h1,by simp only [St.at,h2,Option.map_some]⟩
theorem ldP_pin [Inhabited α] {s:St} {f:α→V} {i off:Nat} (hi:i < l.length) (hf:∀ x,(enc x)[off]?=some (f x)) (hs:∀ x,(f x).still=true) (hh:∀ x,(f x).sh=f x):ldP d s (.pin (l.map enc) i off) none=some (f (l[i]?.getD default)):=by
  obtain ⟨x,h1,h2⟩:=at_pin (enc:=enc) (d:=d) (s:=s) (off:=off) hi
  obtain ⟨hl,he⟩:=List.getElem?_eq_some_iff.mp (hf x)
  unfold ldP
  rw [h2,List.drop_eq_getElem_cons hl,he]
  simp only [bnd_some,h1,Option.getD_some]
  rw [if_pos (hs x),hh]
theorem pldM [Inhabited α] {f:α→V} {t i off:Nat} {a:A} (e1:ev y G a=some (.pin (l.map enc) i off)) (hi:i < l.length) (hf:∀ x,(enc x)[off]?=some (f x)) (hs:∀ x,(f x).still=true) (hh:∀ x,(f x).sh=f x):pv d (.ld t none a) y G=some (f (l[i]?.getD default)):=by
  simp only [pv,ev1,e1]
  exact ldP_pin hi hf hs hh
theorem pldpM [Inhabited α] {f:α→V} {t i off:Nat} {a:A} (e1:ev y G a=some (.pin (l.map enc) i off)) (hi:i < l.length) (hf:∀ x,(enc x)[off]?=some (f x)) (hs:∀ x,(f x).still=true) (hh:∀ x,(f x).sh=f x):pv d (.ldp t none a) y G=some (f (l[i]?.getD default)):=by
  simp only [pv,ev1,e1]
  exact ldP_pin hi hf hs hh
theorem wp_ldpM [Inhabited α] {f:α→V} {t i off:Nat} {a:A} (e1:ev y [] a=some (.pin (l.map enc) i off)) (hi:i < l.length) (hf:∀ x,(enc x)[off]?=some (f x)) (hs:∀ x,(f x).still=true) (hh:∀ x,(f x).sh=f x) (h:putK n y t (f (l[i]?.getD default)) k):WpO P n d (.ldp t none a) y k:=⟨_,pldpM e1 hi hf hs hh,h⟩
instance:Inhabited Lp:=⟨⟨0,0,false⟩⟩
instance:Inhabited ByteArray:=⟨⟨#[]⟩⟩
theorem wp_lito {P:Nat→Option Fun} {n d:Nat} {y:Ys} {k:Ys→Prop} {t z m:Nat} {zero:List V} {ps:List (Nat × A)} (e0:zero.length=z) (h:yLC y z ps (List.replicate m zero) fun es=>addC y.l t 0 (.cells z es) fun l=>putK n ⟨y.e,l,y.f,y.w⟩ t (.arr (d,t,0) z 0 m) k):WpO P n d (.lito t z m zero ps) y k:=by
  obtain ⟨es,h1,h2⟩:=yLC_ok h
  refine ⟨?_⟩
  intro s r
  obtain ⟨h3,h4⟩:=add_of r h2
  obtain ⟨y1,r1,k1⟩:=putK_ok (C:=low (D P)) (r.setl _) h4
  refine ⟨_,y1,?_,r1,k1⟩
  simp only [step,e0,if_true,yL_ok r h1,h3,Option.map_some]
end Go.Den
namespace Go.Den
theorem WpB.of {P:Nat→Option Fun} {n d:Nat} {a a':C} {y:Ys} {Q:Ex→Ys→Prop} (e:a=a') (h:wpC P n d a' y Q):WpB P n d a y Q:=by subst e;exact ⟨h⟩
end Go.Den
namespace Go.Den
variable {P:Nat→Option Fun} {n d:Nat} {y:Ys} {k:Ys→Prop}
def slE (l:List UInt8):List V:=[.sl 1 (u8l l) .sh]
theorem wp_grow {t z:Nat} {a:A} {j:Int} (e1:ev y [] a=some (.int .i64 j)) (hc:0≤j∧j≤16777216) (h:putK n y t (.sl z [] .uniq) k):WpO P n d (.grow t z a) y k:=by
  refine ⟨?_⟩
  intro s r
  obtain ⟨y1,r1,k1⟩:=putK_ok (C:=low (D P)) r h
  refine ⟨_,y1,?_,r1,k1⟩
  simp only [step,r.ev0 e1]
  exact if_pos hc
theorem wp_cpy {t t' u' m:Nat} {a b:A} {es:List (List V)} {x:ByteArray} (e1:ev y [] a=some (.arr (d,t',u') 1 0 m)) (e2:ev y [] b=some (.str x)) (el:alook y.l t' u'=some (.row 1 es false)) (hm:m≤es.length) (h:updC y.l t' u' (fun _ k2=>k2 (.row 1 ((str8 x).take m++es.drop (min (str8 x).length m)) false)) fun l=>putK n ⟨y.e,l,y.f,y.w⟩ t (.int .i64 (min (str8 x).length m:Nat)) k):WpO P n d (.cpy t 1 a b) y k:=by
  obtain ⟨o,_,h1,rfl,h2⟩:=updC_ok (G:=fun _ e'=>e'=.row 1 ((str8 x).take m++es.drop (min (str8 x).length m)) false) (fun e k h=>⟨_,rfl,h⟩) h
  refine ⟨?_⟩
  intro s r
  obtain ⟨y1,r1,k1⟩:=putK_ok (C:=low (D P)) (r.setl _) h2
  refine ⟨_,y1,?_,r1,k1⟩
  have hg:s.get d (d,t',u')=some (.row 1 es false):=by simp only [St.get,if_true,r.l,el]
  have hs:srcV d s 1 (.str x)=some (str8 x):=by simp only [srcV,if_true]
  simp only [step,r.ev0 e1,r.ev0 e2,hs,hg]
  rw [if_pos ⟨trivial,trivial,by omega⟩]
  simp only [List.take_zero,List.nil_append,Nat.zero_add,St.set,if_true,r.l]
theorem wp_callA {t f t' u' z m:Nat} {fv a0:A} {xs:List A} {a b vs:List V} {es:List (List V)} {fz:Bool} {Φ:V→Prop} (hL:∃ v,Val P f (a++(.sl z (es.take m) .sh::vs.map V.sh)++b) v∧Φ v) (e1:ev y [] fv=some (.fn f a b)) (e0:ev y [] a0=some (.arr (d,t',u') z 0 m)) (el:alook y.l t' u'=some (.row z es fz)) (hm:m≤es.length) (e2:evL y [] xs=some vs) (e3:vs.all plainV=true)
    (e4:(keysL (a++(.sl z (es.take m) .sh::vs.map V.sh)++b)).isEmpty=true) (hk:∀ v,Φ v→∃ v',recvP v=some v'∧updC y.l t' u' (fun _ k2=>k2 (.row z es true)) fun l=>putK n ⟨y.e,l,y.f,y.w⟩ t v' k):WpO P n d (.call (some t) false false fv (a0::xs)) y k:=by
  obtain ⟨v,hv,hΦ⟩:=hL
  obtain ⟨v',h1,h2⟩:=hk v hΦ
  obtain ⟨o,_,h3,rfl,h4⟩:=updC_ok (G:=fun _ e'=>e'=.row z es true) (fun e k h=>⟨_,rfl,h⟩) h2
  refine ⟨?_⟩
  intro s r
  have r':=r.setl (aset y.l t' u' (.row z es true))
  obtain ⟨y1,r1,k1⟩:=putK_ok (C:=low (D P)) r' h4
  refine ⟨_,y1,?_,r1,k1⟩
  have hg:s.get d (d,t',u')=some (.row z es fz):=by simp only [St.get,if_true,r.l,el]
  have ha:arg1 d false a0 s=some (.sl z (es.take m) .sh,{ s with l:=aset y.l t' u' (.row z es true) }):=by
    unfold arg1
    rw [r.ev0 e0]
    simp only [Bool.false_eq_true,if_false,hg]
    rw [if_pos ⟨trivial,by omega⟩]
    simp only [List.drop_zero,St.set,if_true,r.l]
  have e2':evL (⟨y.e,aset y.l t' u' (.row z es true),y.f,y.w⟩:Ys) [] xs=some vs:=by
    rw [← e2]
    have hev:∀ a:A,ev (⟨y.e,aset y.l t' u' (.row z es true),y.f,y.w⟩:Ys) [] a=ev y [] a:=fun a=>by cases a<;>rfl
    clear e2 e3 hk e4
    induction xs with
    | nil=>rfl
    | cons x xs ih=>simp only [evL,hev,ih]
  have hA:=argL_plain (d:=d) (G:=[]) (raw:=false) r' trivial trivial e2' e3
  simp only [step,r.ev0 e1,argL,ha,hA,Option.map_some,bnd_some]
  have hm':merge d (aset y.l t' u' (.row z es true)) s.f=merge d (aset y.l t' u' (.row z es true)) s.f:=rfl
  rw [low_val e4 hv]
  simp only [bnd_some,took,after,Bool.false_eq_true,if_false,recvP_of h1,Option.map_some]
end Go.Den
namespace Go.Den
variable {P:Nat→Option Fun} {n d:Nat} {y:Ys} {k:Ys→Prop}
theorem wp_callX {t f t' u':Nat} {raw:Bool} {fv:A} {xs:List A} {a b vs:List V} {v v':V} {o o':Obj} {w:Bool} (hD:D P f (d+1) (a++vs.map V.sh++b) (upd (merge d y.l y.f) (d,t',u') o)=some (v,upd (merge d y.l y.f) (d,t',u') o',w)) (hw:w=false→o'=o) (e1:ev y [] fv=some (.fn f a b)) (e2:evL y [] xs=some vs) (e3:vs.all plainV=true) (e4:(keysL (a++vs.map V.sh++b)).isEmpty=false) (hl:alook y.l t' u'=some o) (hn:lnd y.l=true) (hr:recvP v=some v')
    (h:updC y.l t' u' (fun _ k2=>k2 o') fun l=>putK n ⟨y.e,l,y.f,w || y.w⟩ t v' k):WpO P n d (.call (some t) raw false fv xs) y k:=by
  refine wp_callG (Φ:=fun v1 g1 w1=>v1=v∧g1=upd (merge d y.l y.f) (d,t',u') o'∧w1=w) ⟨v,_,w,(by rw [low_D e4,merge_own hl,hD,← merge_own hl]),rfl,rfl,rfl⟩ e1 e2 e3 ?_
  rintro _ _ w ⟨rfl,rfl,rfl⟩
  refine ⟨v',hr,?_⟩
  obtain ⟨o1,_,h7,rfl,h8⟩:=updC_ok (G:=fun _ e'=>e'=o') (fun e k h=>⟨o',rfl,h⟩) h
  cases w with
  | true =>
    simp only [if_true,relook_own hn,unmerge_own]
    exact h8
  | false =>
    rw [hw rfl,aset_self hl] at h8
    exact h8
end Go.Den
namespace Go.Den
variable {P:Nat→Option Fun} {n d:Nat} {y:Ys} {k:Ys→Prop} {α:Type} {enc:α→List V} {l:List α}
theorem wp_stRX {a b:A} {v:V} {t' u' i off z:Nat} {x:α} (f:α→α) (hx:l[i]?=some x) (e1:ev y [] a=some (.ptr (d,t',u') i off)) (e2:ev y [] b=some v) (el:alook y.l t' u'=some (.row z (l.map enc) false)) (hp:v.pure=true) (hl:∀ x,off < (enc x).length) (hf:∀ x,(enc x).set off v=enc (f x)) (h:updC y.l t' u' (fun _ k2=>k2 (.row z ((l.set i (f x)).map enc) false)) fun l=>k ⟨y.e,l,y.f,y.w⟩):WpO P n d (.st none a b) y k:=by
  obtain ⟨hi,_⟩:=List.getElem?_eq_some_iff.mp hx
  refine wp_stRM f e1 e2 el hi hp hl hf fun x' hx'=>?_
  rw [hx] at hx'
  cases hx'
  exact h
end Go.Den
namespace Go.Den
variable {P:Nat→Option Fun} {n d:Nat} {y:Ys} {k:Ys→Prop}
def drwC (P:Nat→Option Fun) (n d:Nat) (b:List O) (y:Ys) (k:Ys→Prop) (y1:Ys):Prop:=
  match y1 with
  | ⟨e,l,f,w⟩=>okAll e=true∧(wpR P n d b y fun y2=>okAll y2.e=true∧ysort y2=ysort ⟨e,l,f,w⟩)∧ysortC e fun e'=>k ⟨e',l,f,w⟩
structure DrwE (P:Nat→Option Fun) (n d:Nat) (b:List O) (y:Ys) (k:Ys→Prop) (y1:Ys):Prop where
  out:drwC P n d b y k y1
theorem wp_drw2 {a b:List O} (h:wpR P n d a y fun y1=>DrwE P n d b y k y1):WpD P n d a b y k:=by
  refine ⟨fun s r=>?_⟩
  obtain ⟨s1,y1,e1,r1,⟨h1⟩⟩:=wpR_ok r h
  unfold drwC at h1
  simp only at h1
  obtain ⟨o1,h2,h3⟩:=h1
  rw [ysortC_eq] at h3
  obtain ⟨s2,y2,e2,r2,o2,q2⟩:=wpR_ok r h2
  have g1:s1=yst n (ysort y1):=r1.sort.st (okAll_sort o1)
  have g2:s2=yst n (ysort y2):=r2.sort.st (okAll_sort o2)
  refine ⟨s1,ysort y1,e1,?_,r1.sort,h3⟩
  rw [e2,g1,g2,q2]
end Go.Den
namespace Go.Den
variable {P:Nat→Option Fun} {n d:Nat} {y:Ys} {k:Ys→Prop}
theorem wp_callLB {t f t' u':Nat} {raw ob:Bool} {fv:A} {xs:List A} {a b vs:List V} {o:Obj} {Φ:V→Obj→Prop} (hL:∀ g,Acts P f (d+1) (a++vs.map V.sh++b) g (d,t',u') o Φ) (e1:ev y [] fv=some (.fn f a b)) (e2:evL y [] xs=some vs) (e3:vs.all plainV=true) (e4:(keysL (a++vs.map V.sh++b)).isEmpty=false) (hl:alook y.l t' u'=some o) (hn:lnd y.l=true)
    (hk:∀ v o',Φ v o'→∀ w,(w=false→y.w=false)→updC y.l t' u' (fun _ k2=>k2 o') fun l=>recvC d t ob v l fun v' l'=>putK n ⟨y.e,l',y.f,w⟩ t v' k):WpO P n d (.call (some t) raw ob fv xs) y k:=by
  obtain ⟨v,o',w,h1,h2,h3⟩:=hL (merge d y.l y.f)
  refine ⟨?_⟩
  intro s h
  have h6:=fun w hw=>updC_ok (G:=fun _ e'=>e'=o') (fun e k h=>⟨o',rfl,h⟩) (hk v o' h3 w hw)
  have ha:∃ s',after d s (upd (merge d y.l y.f) (d,t',u') o') w=s'∧∃ w',(w'=false→y.w=false)∧Yr n ⟨y.e,aset y.l t' u' o',y.f,w'⟩ s':=by
    cases w with
    | true =>
      refine ⟨_,rfl,true,nofun,?_⟩
      simp only [after,if_true]
      exact ⟨h.len,by simp only [h.l,relook_own hn],by simp only [h.f,unmerge_own],rfl,fun m=>h.slot m,h.lt,h.wf⟩
    | false =>
      refine ⟨_,rfl,y.w,id,?_⟩
      simp only [after,Bool.false_eq_true,if_false]
      rw [h2 rfl,aset_self hl]
      exact ⟨h.len,h.l,h.f,h.w,fun m=>h.slot m,h.lt,h.wf⟩
  obtain ⟨s',hs',w',hw',r'⟩:=ha
  obtain ⟨o1,o2,h7,ho2,h8⟩:=h6 w' hw'
  rw [ho2] at h8
  have hr:=h8
  rw [show aset y.l t' u' o'=s'.l from r'.l.symm] at hr
  obtain ⟨v',l',h9,h10⟩:=recvC_ok s' hr
  obtain ⟨y1,r1,k1⟩:=putK_ok (C:=low (D P)) (r'.setl l') h10
  refine ⟨_,y1,?_,r1,k1⟩
  simp only [step,h.ev0 e1,argL_plain (G:=[]) h trivial trivial e2 e3,bnd_some]
  rw [show merge d s.l s.f=merge d y.l y.f by rw [h.l,h.f],low_D e4,merge_own hl,h1]
  simp only [bnd_some,hs',took,h9,Option.map_some]
end Go.Den
namespace Go.Den
variable {P:Nat→Option Fun} {n d:Nat} {y:Ys} {k:Ys→Prop} {α:Type} {enc:α→List V} {l:List α}
theorem wp_ldpMs {t i off w:Nat} {a:A} (e1:ev y [] a=some (.pin (l.map enc) i off)) (hi:i < l.length) (h:∀ x,l[i]?=some x→dropC (enc x) off fun c=>(c.take w).all V.still=true∧tkC w c fun cs=>putK n y t (.agg cs) k):WpO P n d (.ldp t (some w) a) y k:=by
  obtain ⟨x,h1,h2⟩:=at_pin (enc:=enc) (d:=d) (s:=y.mem) (off:=off) hi
  have h3:=h x h1
  rw [dropC_eq] at h3
  obtain ⟨hu,h4⟩:=h3
  obtain ⟨h5,h6⟩:=tkC_ok h4
  refine ⟨_,?_,h6⟩
  simp only [pv,ev1,e1]
  unfold ldP
  rw [h2]
  simp only [bnd_some]
  exact if_pos ⟨h5,hu⟩
def nameC (d t j:Nat) (l:Loc) (t' u' i c:Nat) (k:Loc→Prop):Prop:=
  match alook l t' u' with
  | some (.cells z es)=>match es[i]? with
    | some e=>match e[c]? with
      | some v=>match v.uq with
        | true=>recv1C d t j true v (aset l t' u' (.cells z (es.set i (e.set c .dead)))) fun v' l'=>k (aset l' t' u' (.cells z (es.set i (e.set c v'))))
        | false=>k l
      | none=>False
    | none=>False
  | _=>False
def nameCN (d t t' u' i off:Nat):Nat→Nat→Loc→(Loc→Prop)→Prop
  | 0,_,l,k=>k l
  | n+1,j,l,k=>nameC d t j l t' u' i (off+j) fun l'=>nameCN d t t' u' i off n (j+1) l' k
theorem nameC_ok {t j t' u' i c:Nat} {k:Loc→Prop} (s:St) (h:nameC d t j s.l t' u' i c k):∃ l,s.nameCell d t j (d,t',u') i c=some { s with l:=l }∧k l:=by
  unfold nameC at h
  have hg:s.get d (d,t',u')=alook s.l t' u':=by simp only [St.get,if_true]
  unfold St.nameCell
  rw [hg]
  split at h
  · rename_i z es he
    rw [he]
    split at h
    · rename_i e hi
      split at h
      · rename_i v hv
        simp only [hi,hv]
        cases hu:v.uq
        · rw [hu] at h
          exact ⟨s.l,by simp,h⟩
        · rw [hu] at h
          have hs:s.set d (d,t',u') (.cells z (es.set i (e.set c .dead)))={ s with l:=aset s.l t' u' (.cells z (es.set i (e.set c .dead))) }:=by simp only [St.set,if_true]
          rw [hs]
          obtain ⟨v',l',h1,h2⟩:=recv1C_ok { s with l:=aset s.l t' u' (.cells z (es.set i (e.set c .dead))) } h
          rw [h1]
          refine ⟨_,?_,h2⟩
          simp only [if_true,Option.map_some,St.set]
      · exact h.elim
    · exact h.elim
  · exact h.elim
theorem nameCN_ok {t t' u' i off:Nat}:∀ {m j:Nat} {k:Loc→Prop} (s:St),nameCN d t t' u' i off m j s.l k→∃ l,nameN d t (d,t',u') i off m j s=some { s with l:=l }∧k l
  | 0,_,_,s,h=>⟨s.l,rfl,h⟩
  | m+1,j,k,s,h=>by
    obtain ⟨l,h1,h2⟩:=nameC_ok s h
    obtain ⟨l',h3,h4⟩:=nameCN_ok (m:=m) (j:=j+1) { s with l:=l } h2
    exact ⟨l',by simp only [nameN,h1,bnd_some,h3],h4⟩
theorem wp_ldo {t m t' u' i off:Nat} {a:A} (e1:ev y [] a=some (.ptr (d,t',u') i off)) (h:nameCN d t t' u' i off m 0 y.l fun l=>lookC l t' u' fun o=>celC o i fun e=>dropC e off fun c=>hasUq (c.take m)=false∧tkC m c fun cs=>putK n ⟨y.e,l,y.f,y.w⟩ t (.agg cs) k):WpO P n d (.ldo t m a) y k:=by
  refine ⟨?_⟩
  intro s r
  have hl:=r.l
  rw [← hl] at h
  obtain ⟨l,h1,h2⟩:=nameCN_ok s h
  obtain ⟨o,h3,h4⟩:=lookC_ok h2
  unfold celC at h4
  split at h4
  · rename_i z es
    obtain ⟨e,h5,h6⟩:=nthC_ok h4
    rw [dropC_eq] at h6
    obtain ⟨hu,h7⟩:=h6
    obtain ⟨h8,h9⟩:=tkC_ok h7
    obtain ⟨y1,r1,k1⟩:=putK_ok (C:=low (D P)) (r.setl l) h9
    refine ⟨_,y1,?_,r1,k1⟩
    have hat:({ s with l:=l }:St).at d (.ptr (d,t',u') i off)=some (e.drop off):=by
      simp only [St.at,St.get,if_true,h3,h5,Option.map_some]
    simp only [step,r.ev0 e1,if_true,h1,bnd_some,hat]
    exact if_pos ⟨h8,hu⟩
  · exact h4.elim
end Go.Den
