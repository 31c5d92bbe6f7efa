import Derived.Test.YtblkhnacgnlbdaaGreatDoorET
import Derived.Test.YtblkhnacgnlbdaaGreatDoorEU
import Derived.Test.YtblkhnacgnlbdaaGreatDoorET0
set_option linter.all false
namespace Go.Den
open Go.Proofs
set_option maxRecDepth 100000
def Has (f:Nat) (F:Fun):Prop:=∃ fn h,Tryz.prog.funcs[f]?=some fn∧(fn.name == "runtime.NumGoroutine")=false∧prepF cx h Tryz.prog fn=some F
theorem has_of {f:Nat} {fn:Func} {h:Hint} {F:Fun} (h3:prepF cx h Tryz.prog fn=some F) (h1:Tryz.prog.funcs[f]?=some fn:=by kernel_rfl) (h2:(fn.name == "runtime.NumGoroutine")=false:=by kernel_rfl):Has f F:=⟨fn,h,h1,h2,h3⟩
def HasL:List (Nat × Fun)→Prop
  | []=>True
  | p::r=>Has p.1 p.2∧HasL r
theorem hasL_look:∀ {l:List (Nat × Fun)} {f:Nat} {F:Fun},HasL l→l.lookup f=some F→Has f F
  | [],_,_,_,h=>by cases h
  | (a,G)::r,f,F,hl,h=>by
    rcases look_cons h with ⟨rfl,rfl⟩ | h
    · exact hl.1
    · exact hasL_look hl.2 h
theorem tab_has:HasL tab:=⟨has_of p3,has_of p5,has_of p6,has_of p7,has_of p8,has_of p9,has_of p10,has_of p15,has_of p17,has_of p18,has_of p19,has_of p20,has_of p21,has_of p22,has_of p23,has_of p24,has_of p25,has_of p26,has_of p27,has_of p28,has_of p29,has_of p30,has_of p31,has_of p32,has_of p33,has_of p34,has_of p44,has_of p48,has_of p49,has_of p50,has_of p51,has_of p52,has_of p53,has_of p54,has_of p55,has_of p56,has_of p57,has_of p58,has_of p59,has_of p60,has_of p61,has_of p62,has_of p63,has_of p64,has_of p65,has_of p66,has_of p67,has_of p69,has_of p70,has_of p71,has_of p72,has_of p73,has_of p74,has_of p75,has_of p76,has_of p77,has_of p78,has_of p79,has_of p80,has_of p81,has_of p82,has_of p83,has_of p100,has_of p101,has_of p102,has_of p103,has_of p105,has_of p106,has_of p107,has_of p108,has_of p109,has_of p110,has_of p111,has_of p112,has_of p113,has_of p114,has_of p115,has_of p116,has_of p117,has_of p118,has_of p119,has_of p120,has_of p121,has_of p122,has_of p123,has_of p124,has_of p125,has_of p126,has_of p127,has_of p128,has_of p129,has_of p130,has_of p131,has_of p132,has_of p133,has_of p134,has_of p135,has_of p136,has_of p137,has_of p138,has_of p139,has_of p147,has_of p148,has_of p149,has_of p150,has_of p151,has_of p152,has_of p153,has_of p154,has_of p155,has_of p156,has_of p157,has_of p158,has_of p159,has_of p160,has_of p161,has_of p162,has_of p180,has_of p183,has_of p184,has_of p185,has_of p186,has_of p187,has_of p188,has_of p190,has_of p191,has_of p192,has_of p193,has_of p195,has_of p197,has_of p198,has_of p199,has_of p200,has_of p201,has_of p203,has_of p204,has_of p205,has_of p206,has_of p207,has_of p209,has_of p210,has_of p211,has_of p212,has_of p213,has_of p214,has_of p220,has_of p221,has_of p222,has_of p223,has_of p225,has_of p226,has_of p227,has_of p228,has_of p229,has_of p230,has_of p231,has_of p232,has_of p233,has_of p234,has_of p235,has_of p247,has_of p248,has_of p249,has_of p257,has_of p258,has_of p259,has_of p260,has_of p261,has_of p262,has_of p272,has_of p273,has_of p274,has_of p275,has_of p276,has_of p278,has_of p279,has_of p288,has_of p298,has_of p299,trivial⟩
theorem den (n:Nat):CallOK Tryz.prog (DN PT n):=den_ok okk (fun _ _ h=>hasL_look tab_has h) n
end Go.Den
